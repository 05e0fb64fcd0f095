/- The words, contracts and walks that this claim leans on, put together by a program of this session (part 4). -/
import Derived.Test.YtlalpooiegganaaZN3
section
namespace Go.Proofs.Ytlalpooiegganaa.MsgG
open Go.RowKit Go.Proofs.YtlalpooiegganaaW.PrintWords Go.Proofs.YtlalpooiegganaaW.PrintLast Go.Proofs.YtlalpooiegganaaW.PrintMore Go.Proofs.Ytlalpooiegganaa.Core Go.Proofs.Ytlalpooiegganaa.Wk Go.Proofs.Ytlalpooiegganaa.PMasterWaits Go.Proofs.Ytlalpooiegganaa.Msg Go.Proofs.Ytlalpooiegganaa.MsgB Go.Proofs.Ytlalpooiegganaa.MsgC Go.Proofs.Ytlalpooiegganaa.MsgD
set_option linter.unusedVariables false
set_option linter.unusedSimpArgs false
theorem irow_R {W : World} {base : Nat} {ok : Nat → Prop} {v : Value} {vs : List Int} (h : Kd.R (Kd.int .i64) 3 W base ok v vs) (hl : vs.length ≤ 9223372036854775807) : ∃ A' k', v = .slice A' vs.length k' ∧ vs.length ≤ k' ∧ IRow W A' vs.length vs := by
 have h1 := Kd.own_of_R h
 obtain ⟨A', k', e⟩ := own_slice h1
 refine ⟨A', k', e, by subst e; exact own_cap h1, rfl, hl, fun hn => ?_⟩
 obtain ⟨g, cap, e2, _, _⟩ := h1.form hn
 rw [e] at e2
 injection e2 with e2 _ _
 obtain ⟨cur, hb⟩ := own_typed h1 g (by rw [e, e2]; rfl)
 refine ⟨g, cur, e2, hb, fun j hj => ?_⟩
 subst e
 subst e2
 have := h1.cells rfl j (.int .i64 (vs.getD j 0)) (by simp [encs, List.getD_eq_getElem?_getD, List.getElem?_eq_getElem hj])
 rw [show (⟨g, 0, none⟩ : Addr).add j = ⟨g, j, none⟩ from by simp [Addr.add] <;> omega, blk_cell hb j] at this
 exact this
theorem parse_q {x : SV} {vs : List Int} {w : World} (h : IRow w x.A x.l vs) (hk : x.l ≤ x.k) {A : Option Addr} {c : Nat} {b : List Int} (hb : Kd.C (Kd.int .u8) w A b.length b) (hc : b.length ≤ c) {al : List Int} {code r : Int} (hp : ∃ K, PG.pdu_AnswerParse.f K x.f x.a x.c vs x.o x.n x.r b = some (al, code, r)) : Calls Try.prog 35 #[.agg #[.int .i64 x.f, .int .i64 x.a, .int .i64 x.c, .slice x.A x.l x.k, .int .i64 x.o, .int .i64 x.n, .int .i64 x.r], .slice A b.length c] w fun e w' => ∃ v0_ : Value, e = .returned (.tuple #[.agg #[v0_, .int .i64 code], .int .i64 r]) ∧ Kd.R (Kd.int .i64) 3 w' w.heap.size (fun _ => True) v0_ al ∧ Below w.heap.size w w' := by
 obtain ⟨K, hp⟩ := hp
 have hl := h.1
 rw [← hl] at hk ⊢
 exact PG.pdu_AnswerParse.calls K x.f x.a x.c x.A x.k vs x.o x.n x.r A c b al code r w (irow_C h) hk hb hc hp
def CameR (w' : World) (t : Int) (al : List Int) (code : Int) (v : Value) : Prop := ∃ gd A' k', v = .slice (some ⟨gd, 0, none⟩) 1 1 ∧ al.length ≤ k' ∧ w'.heap[gd]? = some (.cells #[.int .i64 t, .slice A' al.length k', .int .i64 code, .bool false] 48 (0, 0)) ∧ IRow w' A' al.length al
set_option maxHeartbeats 4000000 in
set_option maxRecDepth 100000 in
theorem came_unlike {B : Nat} {w : World} {g m : Nat} {wait again pause now tk times last : Int} {rest : Int → Int} {line : List SV} {x : SV} (h : IsM B w g m ⟨wait, again, pause, now, tk, line, some x, times, last, rest⟩) (hB : B ≤ w.heap.size) (t : Int) (h0 : 0 ≤ t) (h1 : now ≤ t) (u : Int) (hq : x.u ≠ u) (A : Option Addr) (bl c : Nat) : Calls Try.prog 14 #[.pointer (some ⟨g, 0, none⟩), .int .i64 t, .int .i64 u, .slice A bl c] w fun e w' => e = .returned (.tuple #[.slice none 0 0, .int .i64 5]) ∧ IsM B w' g m ⟨wait, again, pause, t, tk, line, some x, times, last, rest⟩ ∧ Ext (Gm g m) w w' ∧ Keeps w w' := by
 have H := Aside0.mk h; have HB := Aside0.mk hB; have T0 := Aside0.mk h0; have T1 := Aside0.mk h1
 clear h hB h0 h1
 have qa : decide (x.u = u) = false := decide_eq_false hq; have qb : (x.u == u) = false := beq_eq_false_iff_ne.2 hq; have qc : (x.u != u) = true := by rw [bne, qb]; rfl
 have hu31 := Try.underlying31; have hu39 := Try.underlying39; have hu46 := Try.underlying46; have hu48 := Try.underlying48
 go_enter Try.func14, Try.ntmps14
 go_upto_region 4 with (go_at_call 31; refine (goon_f H.out HB.out t T0.out T1.out).mono ?_; rintro e w1 ⟨rfl, HI, HXg, HKg⟩; have HI := Aside0.mk HI; have HX := Aside0.mk HXg; have HBB : Aside0 (Ext (Gm g m) w w1) := ⟨extg HXg⟩; have HKG := Aside0.mk HKg; clear HXg HKg)
 clear H
 have HBW : Aside0 (B ≤ w1.heap.size) := ⟨Nat.le_trans HB.out HBB.out.size⟩
 obtain ⟨⟨vl, vo, hb, hl, ho⟩, ⟨f, n, hm, hf⟩⟩ := HI.out
 clear HI
 obtain ⟨go, rfl, hgo, bgo, nlo⟩ := ho
 have BK_g : Aside0 (w1.heap[g]? = some (.cells #[.int .i64 wait, .int .i64 again, .int .i64 pause, .int .i64 t, .int .i64 tk, vl, .pointer (some ⟨go, 0, none⟩), .int .i64 times, .int .i64 last, .map (some m)] 73 (0, 0))) := ⟨hb⟩
 have OB_l : Aside0 (OwnE ks (fun _ => False) 39 B w1 vl (line)) := ⟨hl⟩
 have MP_m := Aside0.mk hm; have HF := Aside0.mk hf
 have NE_l_g : Aside0 (∀ k, (vl).ownBlock = some k → k ≠ g) := ⟨ks_ne hl hb (by decide)⟩; have NE_l_m : Aside0 (∀ k, (vl).ownBlock = some k → k ≠ m) := ⟨ks_nm hl hm⟩; have NE_g_m : Aside0 (g ≠ m) := ⟨cell_nm hb hm⟩; have NE_m_g : Aside0 (m ≠ g) := ⟨fun e => NE_g_m.out e.symm⟩; have F_g : Aside0 (∀ k, k = g → Gm g m k ∨ w1.heap.size ≤ k) := ⟨fun k e => .inl (.inl e)⟩; have F_m : Aside0 (∀ k, k = m → Gm g m k ∨ w1.heap.size ≤ k) := ⟨fun k e => .inl (.inr e)⟩
 have BK_go : Aside0 (w1.heap[go]? = some (.cells #[.int .i64 x.t, .int .i64 x.u, .int .i64 x.f, .int .i64 x.a, .int .i64 x.c, .slice x.A x.l x.k, .int .i64 x.o, .int .i64 x.n, .int .i64 x.r] 39 (0, 0))) := ⟨hgo⟩; have BGO := Aside0.mk bgo; have NE_l_go : Aside0 (∀ k, (vl).ownBlock = some k → k ≠ go) := ⟨nlo⟩; have NE_go_g : Aside0 (go ≠ g) := ⟨blk_ne hgo hb (by decide)⟩; have NE_g_go : Aside0 (g ≠ go) := ⟨fun e => NE_go_g.out e.symm⟩; have NE_go_m : Aside0 (go ≠ m) := ⟨cell_nm hgo hm⟩; have NE_m_go : Aside0 (m ≠ go) := ⟨fun e => NE_go_m.out e.symm⟩; clear hgo bgo nlo
 clear hb hl hm hf
 have XT : Aside0 (Ext (Gm g m) w1 w1) := ⟨Ext.refl _ _⟩
 refine cl10_ BK_g.out ?_; intro lc1_0 lc1_1 lc1_2 lc1_3 lc1_4 lc1_5 lc1_6 lc1_7 lc1_8 lc1_9 lf1_0 lf1_1 lf1_2 lf1_3 lf1_4 lf1_5 lf1_6 lf1_7 lf1_8 lf1_9
 refine cl9_ BK_go.out ?_; intro lc2_0 lc2_1 lc2_2 lc2_3 lc2_4 lc2_5 lc2_6 lc2_7 lc2_8 lf2_0 lf2_1 lf2_2 lf2_3 lf2_4 lf2_5 lf2_6 lf2_7 lf2_8
 have KP : Aside0 (Keeps w1 w1) := ⟨fun _ _ _ h _ _ => h⟩
 go_wp2
 go_ret2
 exact ⟨rfl, ⟨⟨_, _, BK_g.out, OB_l.out, ⟨go, rfl, BK_go.out, BGO.out, NE_l_go.out⟩⟩, ⟨_, _, MP_m.out, HF.out⟩⟩, HBB.out.trans XT.out, HKG.out.trans KP.out⟩
set_option maxHeartbeats 4000000 in
set_option maxRecDepth 100000 in
theorem came_go {B : Nat} {w : World} {g m : Nat} {wait again pause now tk times last : Int} {rest : Int → Int} {line : List SV} {x : SV} (h : IsM B w g m ⟨wait, again, pause, now, tk, line, some x, times, last, rest⟩) (hB : B ≤ w.heap.size) (t : Int) (h0 : 0 ≤ t) (h1 : now ≤ t) {vs b al : List Int} {code : Int} (hk : x.l ≤ x.k) (hR : IRow w x.A x.l vs) (A : Option Addr) (c : Nat) (hc : b.length ≤ c) (hV : Ever (fun k => k = g) w (fun W => Kd.C (Kd.int .u8) W A b.length b)) (hal : al.length ≤ 100000) (hp : ∃ K, PG.pdu_AnswerParse.f K x.f x.a x.c vs x.o x.n x.r b = some (al, code, 0)) : Calls Try.prog 14 #[.pointer (some ⟨g, 0, none⟩), .int .i64 t, .int .i64 x.u, .slice A b.length c] w fun e w' => ∃ va, e = .returned (.tuple #[va, .int .i64 0]) ∧ CameR w' x.t al code va ∧ IsM B w' g m ⟨wait, again, pause, t, tk, line, none, times, last, rest⟩ ∧ Ext (Gm g m) w w' ∧ Keeps w w' := by
 have H := Aside0.mk h; have HB := Aside0.mk hB; have T0 := Aside0.mk h0; have T1 := Aside0.mk h1
 clear h hB h0 h1
 have HK0 := Aside0.mk hk; have HR0 := Aside0.mk hR; have HC := Aside0.mk hc; have HV := Aside0.mk hV; have HAL := Aside0.mk hal; have HP := Aside0.mk hp; clear hk hR hc hV hal hp
 have hu31 := Try.underlying31; have hu39 := Try.underlying39; have hu46 := Try.underlying46; have hu48 := Try.underlying48
 go_enter Try.func14, Try.ntmps14
 go_upto_region 4 with (go_at_call 31; refine (goon_f H.out HB.out t T0.out T1.out).mono ?_; rintro e w1 ⟨rfl, HI, HXg, HKg⟩; have HI := Aside0.mk HI; have HX := Aside0.mk HXg; have HBB : Aside0 (Ext (Gm g m) w w1) := ⟨extg HXg⟩; have HKG := Aside0.mk HKg; clear HXg HKg)
 clear H
 have HBW : Aside0 (B ≤ w1.heap.size) := ⟨Nat.le_trans HB.out HBB.out.size⟩
 have HV1 : Aside0 (Kd.C (Kd.int .u8) w1 A b.length b) := ⟨HV.out.at_ _ HX.out⟩; have HR1 : Aside0 (IRow w1 x.A x.l vs) := ⟨HKG.out.row HR0.out⟩
 obtain ⟨⟨vl, vo, hb, hl, ho⟩, ⟨f, n, hm, hf⟩⟩ := HI.out
 clear HI
 obtain ⟨go, rfl, hgo, bgo, nlo⟩ := ho
 have BK_g : Aside0 (w1.heap[g]? = some (.cells #[.int .i64 wait, .int .i64 again, .int .i64 pause, .int .i64 t, .int .i64 tk, vl, .pointer (some ⟨go, 0, none⟩), .int .i64 times, .int .i64 last, .map (some m)] 73 (0, 0))) := ⟨hb⟩
 have OB_l : Aside0 (OwnE ks (fun _ => False) 39 B w1 vl (line)) := ⟨hl⟩
 have MP_m := Aside0.mk hm; have HF := Aside0.mk hf
 have NE_l_g : Aside0 (∀ k, (vl).ownBlock = some k → k ≠ g) := ⟨ks_ne hl hb (by decide)⟩; have NE_l_m : Aside0 (∀ k, (vl).ownBlock = some k → k ≠ m) := ⟨ks_nm hl hm⟩; have NE_g_m : Aside0 (g ≠ m) := ⟨cell_nm hb hm⟩; have NE_m_g : Aside0 (m ≠ g) := ⟨fun e => NE_g_m.out e.symm⟩; have F_g : Aside0 (∀ k, k = g → Gm g m k ∨ w1.heap.size ≤ k) := ⟨fun k e => .inl (.inl e)⟩; have F_m : Aside0 (∀ k, k = m → Gm g m k ∨ w1.heap.size ≤ k) := ⟨fun k e => .inl (.inr e)⟩
 have BK_go : Aside0 (w1.heap[go]? = some (.cells #[.int .i64 x.t, .int .i64 x.u, .int .i64 x.f, .int .i64 x.a, .int .i64 x.c, .slice x.A x.l x.k, .int .i64 x.o, .int .i64 x.n, .int .i64 x.r] 39 (0, 0))) := ⟨hgo⟩; have BGO := Aside0.mk bgo; have NE_l_go : Aside0 (∀ k, (vl).ownBlock = some k → k ≠ go) := ⟨nlo⟩; have NE_go_g : Aside0 (go ≠ g) := ⟨blk_ne hgo hb (by decide)⟩; have NE_g_go : Aside0 (g ≠ go) := ⟨fun e => NE_go_g.out e.symm⟩; have NE_go_m : Aside0 (go ≠ m) := ⟨cell_nm hgo hm⟩; have NE_m_go : Aside0 (m ≠ go) := ⟨fun e => NE_go_m.out e.symm⟩; clear hgo bgo nlo
 clear hb hl hm hf
 have XT : Aside0 (Ext (Gm g m) w1 w1) := ⟨Ext.refl _ _⟩
 refine cl10_ BK_g.out ?_; intro lc1_0 lc1_1 lc1_2 lc1_3 lc1_4 lc1_5 lc1_6 lc1_7 lc1_8 lc1_9 lf1_0 lf1_1 lf1_2 lf1_3 lf1_4 lf1_5 lf1_6 lf1_7 lf1_8 lf1_9
 refine cl9_ BK_go.out ?_; intro lc2_0 lc2_1 lc2_2 lc2_3 lc2_4 lc2_5 lc2_6 lc2_7 lc2_8 lf2_0 lf2_1 lf2_2 lf2_3 lf2_4 lf2_5 lf2_6 lf2_7 lf2_8
 have KP : Aside0 (Keeps w1 w1) := ⟨fun _ _ _ h _ _ => h⟩
 go_upto_region 9 with (first | (go_at_call 35; refine (parse_q HR1.out HK0.out HV1.out HC.out HP.out).mono ?_; rintro e w2 ⟨v, rfl, HR, HBc⟩; obtain ⟨A', k', rfl, hkc, hin⟩ := irow_R HR (by have := HAL.out; omega); have HKC := Aside0.mk hkc; clear HR hkc; replace OB_l := Aside0.mk (ks_mv OB_l.out (Ext.none_ HBc) (fun _ _ e => e)); replace KP := Aside0.mk (keeps_then KP.out HBc); clear lc1_0 lc1_1 lc1_2 lc1_3 lc1_4 lc1_5 lc1_6 lc1_7 lc1_8 lc1_9 lf1_0 lf1_1 lf1_2 lf1_3 lf1_4 lf1_5 lf1_6 lf1_7 lf1_8 lf1_9 lc2_0 lc2_1 lc2_2 lc2_3 lc2_4 lc2_5 lc2_6 lc2_7 lc2_8 lf2_0 lf2_1 lf2_2 lf2_3 lf2_4 lf2_5 lf2_6 lf2_7 lf2_8; replace BK_g := Aside0.mk (Ext.blk (Ext.none_ HBc) BK_g.out (fun e => e)); replace BK_go := Aside0.mk (Ext.blk (Ext.none_ HBc) BK_go.out (fun e => e)); replace MP_m := Aside0.mk (IsMap.ext MP_m.out (Ext.none_ HBc) (fun e => e)); replace XT := Aside0.mk (XT.out.stepB HBc); have IR_n : Aside0 (IRow w2 (A') (al.length) (al)) := ⟨hin⟩; clear hin HBc HV1 HR1; refine cl10_ BK_g.out ?_; intro lc3_0 lc3_1 lc3_2 lc3_3 lc3_4 lc3_5 lc3_6 lc3_7 lc3_8 lc3_9 lf3_0 lf3_1 lf3_2 lf3_3 lf3_4 lf3_5 lf3_6 lf3_7 lf3_8 lf3_9; refine cl9_ BK_go.out ?_; intro lc4_0 lc4_1 lc4_2 lc4_3 lc4_4 lc4_5 lc4_6 lc4_7 lc4_8 lf4_0 lf4_1 lf4_2 lf4_3 lf4_4 lf4_5 lf4_6 lf4_7 lf4_8) | ((with_reducible refine gate_dst (N := 11) rfl ?_); refine bx_ (N := 11) (cs := #[.slice none 0 0, .int .i64 0]) (t := 46) ?_; intro a hg w3 hbox HBc; have NE_l_a : Aside0 (∀ k, (vl).ownBlock = some k → k ≠ a) := ⟨fun k hk e => by have := OwnE.lt OB_l.out k hk; omega⟩; have NE_g_a : Aside0 (g ≠ a) := ⟨ne_born (blk_lt BK_g.out) hg⟩; have NE_a_g : Aside0 (a ≠ g) := ⟨fun e => NE_g_a.out e.symm⟩; have NE_go_a : Aside0 (go ≠ a) := ⟨ne_born (blk_lt BK_go.out) hg⟩; have NE_a_go : Aside0 (a ≠ go) := ⟨fun e => NE_go_a.out e.symm⟩; have NE_m_a : Aside0 (m ≠ a) := ⟨ne_born (IsMap.lt MP_m.out) hg⟩; have NE_a_m : Aside0 (a ≠ m) := ⟨fun e => NE_m_a.out e.symm⟩; have F_a : Aside0 (∀ k, k = a → (Gm g m) k ∨ w1.heap.size ≤ k) := ⟨fnew hg XT.out.size⟩; have RG_a : Aside0 (w1.heap.size ≤ a) := ⟨Nat.le_trans XT.out.size (Nat.le_of_eq hg.symm)⟩; have BG_a : Aside0 (B ≤ a) := ⟨Nat.le_trans HBW.out RG_a.out⟩; clear hg; replace OB_l := Aside0.mk (ks_mv OB_l.out (Ext.none_ HBc) (fun _ _ e => e)); replace IR_n := Aside0.mk (irow_below IR_n.out HBc); replace KP := Aside0.mk (keeps_then KP.out HBc); clear lc3_0 lc3_1 lc3_2 lc3_3 lc3_4 lc3_5 lc3_6 lc3_7 lc3_8 lc3_9 lf3_0 lf3_1 lf3_2 lf3_3 lf3_4 lf3_5 lf3_6 lf3_7 lf3_8 lf3_9 lc4_0 lc4_1 lc4_2 lc4_3 lc4_4 lc4_5 lc4_6 lc4_7 lc4_8 lf4_0 lf4_1 lf4_2 lf4_3 lf4_4 lf4_5 lf4_6 lf4_7 lf4_8; replace BK_g := Aside0.mk (Ext.blk (Ext.none_ HBc) BK_g.out (fun e => e)); replace BK_go := Aside0.mk (Ext.blk (Ext.none_ HBc) BK_go.out (fun e => e)); replace MP_m := Aside0.mk (IsMap.ext MP_m.out (Ext.none_ HBc) (fun e => e)); replace XT := Aside0.mk (XT.out.stepB HBc); have BK_a : Aside0 (w3.heap[a]? = some (.cells #[.slice none 0 0, .int .i64 0] 46 (0, 0))) := ⟨hbox⟩; clear hbox HBc; refine cl10_ BK_g.out ?_; intro lc5_0 lc5_1 lc5_2 lc5_3 lc5_4 lc5_5 lc5_6 lc5_7 lc5_8 lc5_9 lf5_0 lf5_1 lf5_2 lf5_3 lf5_4 lf5_5 lf5_6 lf5_7 lf5_8 lf5_9; refine cl9_ BK_go.out ?_; intro lc6_0 lc6_1 lc6_2 lc6_3 lc6_4 lc6_5 lc6_6 lc6_7 lc6_8 lf6_0 lf6_1 lf6_2 lf6_3 lf6_4 lf6_5 lf6_6 lf6_7 lf6_8; refine cl2_ BK_a.out ?_; intro lc7_0 lc7_1 lf7_0 lf7_1) | ((with_reducible refine gate_store (p := 11) rfl ?_); refine store_event (w1 := ?_) rfl (p := 11) rfl rfl ?hr ?_; rotate_left; (case hr => go_simp; rfl); intro w4 hw_; have hput : w4.heap[a]? = some (.cells #[.slice A' al.length k', .int .i64 code] 46 (0, 0)) := (by rw [hw_]; refine blk_put (cs := #[.slice A' al.length k', .int .i64 0]) ?_ 1 _ rfl; refine blk_put (cs := #[.slice none 0 0, .int .i64 0]) ?_ 0 _ rfl; exact BK_a.out); have HEc : Ext (fun k => k = a) w3 w4 := (by rw [hw_]; exact (((Ext.refl _ _).setg _).setg _)); clear hw_; replace OB_l := Aside0.mk (ks_mv OB_l.out HEc NE_l_a.out); replace IR_n := Aside0.mk (irow_set IR_n.out HEc BK_a.out (by decide)); replace KP := Aside0.mk (keeps_set KP.out HEc BK_a.out (.inr (.inr RG_a.out))); clear lc5_0 lc5_1 lc5_2 lc5_3 lc5_4 lc5_5 lc5_6 lc5_7 lc5_8 lc5_9 lf5_0 lf5_1 lf5_2 lf5_3 lf5_4 lf5_5 lf5_6 lf5_7 lf5_8 lf5_9 lc6_0 lc6_1 lc6_2 lc6_3 lc6_4 lc6_5 lc6_6 lc6_7 lc6_8 lf6_0 lf6_1 lf6_2 lf6_3 lf6_4 lf6_5 lf6_6 lf6_7 lf6_8 lc7_0 lc7_1 lf7_0 lf7_1; replace BK_g := Aside0.mk (Ext.blk HEc BK_g.out NE_g_a.out); replace BK_go := Aside0.mk (Ext.blk HEc BK_go.out NE_go_a.out); replace MP_m := Aside0.mk (IsMap.ext MP_m.out HEc NE_m_a.out); replace XT := Aside0.mk (XT.out.step HEc (F_a.out)); clear BK_a; have BK_a : Aside0 (w4.heap[a]? = some (.cells #[.slice A' al.length k', .int .i64 code] 46 (0, 0))) := ⟨hput⟩; clear hput HEc; refine cl10_ BK_g.out ?_; intro lc8_0 lc8_1 lc8_2 lc8_3 lc8_4 lc8_5 lc8_6 lc8_7 lc8_8 lc8_9 lf8_0 lf8_1 lf8_2 lf8_3 lf8_4 lf8_5 lf8_6 lf8_7 lf8_8 lf8_9; refine cl9_ BK_go.out ?_; intro lc9_0 lc9_1 lc9_2 lc9_3 lc9_4 lc9_5 lc9_6 lc9_7 lc9_8 lf9_0 lf9_1 lf9_2 lf9_3 lf9_4 lf9_5 lf9_6 lf9_7 lf9_8; refine cl2_ BK_a.out ?_; intro lc10_0 lc10_1 lf10_0 lf10_1))
 clear lc8_0 lc8_1 lc8_2 lc8_3 lc8_4 lc8_5 lc8_6 lc8_7 lc8_8 lc8_9 lf8_0 lf8_1 lf8_2 lf8_3 lf8_4 lf8_5 lf8_6 lf8_7 lf8_8 lf8_9 lc9_0 lc9_1 lc9_2 lc9_3 lc9_4 lc9_5 lc9_6 lc9_7 lc9_8 lf9_0 lf9_1 lf9_2 lf9_3 lf9_4 lf9_5 lf9_6 lf9_7 lf9_8 lc10_0 lc10_1 lf10_0 lf10_1
 refine start_ (n := 11) (S := fun W => W.cell? ⟨g, 6, none⟩ = some (.pointer (some ⟨go, 0, none⟩)) ∧ W.cell? ⟨go, 0, none⟩ = some (.int .i64 x.t) ∧ W.cell? ⟨a, 0, none⟩ = some (.slice A' al.length k') ∧ W.cell? ⟨a, 1, none⟩ = some (.int .i64 code)) (ds := [10]) (fl 11 0) (by kernel_rfl) rfl (by kernel_rfl) ?_ (fun hHeld => ?_)
 ·exact ⟨(blk_cell (bk_ BK_g) 6).trans rfl, (blk_cell (bk_ BK_go) 0).trans rfl, (blk_cell (bk_ BK_a) 0).trans rfl, (blk_cell (bk_ BK_a) 1).trans rfl⟩
 refine pu_ 0 50 (fl 11 1) rfl rfl (by kernel_rfl) ?_
 refine pu_ 1 51 (fl 11 3) rfl rfl (by kernel_rfl) ?_
 refine pu_ 2 52 (fl 11 7) rfl rfl (by kernel_rfl) ?_
 refine tk_ 3 53 (fl 11 15) rfl rfl (by kernel_rfl) hHeld ?_
 refine pu_ 4 54 (fl 11 31) rfl rfl (by kernel_rfl) ?_
 refine pu_ 5 55 (fl 11 63) rfl rfl (by kernel_rfl) ?_
 refine tk_ 6 56 (fl 11 127) rfl rfl (by kernel_rfl) hHeld ?_
 refine tk_ 7 57 (fl 11 255) rfl rfl (by kernel_rfl) hHeld ?_
 refine pu_ 8 58 (fl 11 511) rfl rfl (by kernel_rfl) ?_
 refine one_ (i := 9) (N := some 13) (fl 11 1023) rfl rfl (by kernel_rfl) (by decide) (fun K hK => ?_)
 refine box_step (by rfl) (N := 13) rfl (cs := #[.int .i64 0, .slice none 0 0, .int .i64 0, .bool false]) (t := 48) ?hr ?_
 case hr => first | (go_simp; done) | (go_simp; rfl)
 intro d hg_ w5 hbox HBc
 have hg : d = w4.heap.size := hg_
 clear hg_
 have HBd : Below w4.heap.size w4 w5 := below_step (by repeat (first | exact Below.refl _ _ | apply pw_below_drewN | apply below_drew1)) HBc
 clear HBc
 have HBc := HBd; clear HBd
 have NE_l_d : Aside0 (∀ k, (vl).ownBlock = some k → k ≠ d) := ⟨fun k hk e => by have := OwnE.lt OB_l.out k hk; omega⟩
 have NE_g_d : Aside0 (g ≠ d) := ⟨ne_born (blk_lt BK_g.out) hg⟩
 have NE_d_g : Aside0 (d ≠ g) := ⟨fun e => NE_g_d.out e.symm⟩
 have NE_go_d : Aside0 (go ≠ d) := ⟨ne_born (blk_lt BK_go.out) hg⟩
 have NE_d_go : Aside0 (d ≠ go) := ⟨fun e => NE_go_d.out e.symm⟩
 have NE_a_d : Aside0 (a ≠ d) := ⟨ne_born (blk_lt BK_a.out) hg⟩
 have NE_d_a : Aside0 (d ≠ a) := ⟨fun e => NE_a_d.out e.symm⟩
 have NE_m_d : Aside0 (m ≠ d) := ⟨ne_born (IsMap.lt MP_m.out) hg⟩
 have NE_d_m : Aside0 (d ≠ m) := ⟨fun e => NE_m_d.out e.symm⟩
 have F_d : Aside0 (∀ k, k = d → (Gm g m) k ∨ w1.heap.size ≤ k) := ⟨fnew hg XT.out.size⟩
 have RG_d : Aside0 (w1.heap.size ≤ d) := ⟨Nat.le_trans XT.out.size (Nat.le_of_eq hg.symm)⟩
 have BG_d : Aside0 (B ≤ d) := ⟨Nat.le_trans HBW.out RG_d.out⟩
 clear hg
 replace OB_l := Aside0.mk (ks_mv OB_l.out (Ext.none_ HBc) (fun _ _ e => e))
 replace IR_n := Aside0.mk (irow_below IR_n.out HBc)
 replace KP := Aside0.mk (keeps_then KP.out HBc)
 replace BK_g := Aside0.mk (Ext.blk (Ext.none_ HBc) BK_g.out (fun e => e))
 replace BK_go := Aside0.mk (Ext.blk (Ext.none_ HBc) BK_go.out (fun e => e))
 replace BK_a := Aside0.mk (Ext.blk (Ext.none_ HBc) BK_a.out (fun e => e))
 replace MP_m := Aside0.mk (IsMap.ext MP_m.out (Ext.none_ HBc) (fun e => e))
 replace XT := Aside0.mk (XT.out.stepB HBc)
 have BK_d : Aside0 (w5.heap[d]? = some (.cells #[.int .i64 0, .slice none 0 0, .int .i64 0, .bool false] 48 (0, 0))) := ⟨hbox⟩
 clear hbox HBc
 refine hK.out _ _ ?_ (fun hHeld => ?_)
 ·exact ⟨(blk_cell (bk_ BK_g) 6).trans rfl, (blk_cell (bk_ BK_go) 0).trans rfl, (blk_cell (bk_ BK_a) 0).trans rfl, (blk_cell (bk_ BK_a) 1).trans rfl⟩
 clear hK K
 refine norm_ (a' := ?_) ?_ ?_
 rotate_left
 ·show Act.put _ (some 13) _ = _
  simp only [Act.put, List.setIfInBounds_toArray, List.set_cons_zero, List.set_cons_succ, i64_w, i32_w]
  rfl
 refine last_ (i := 10) (N := none) (fl 11 2047) rfl rfl (by kernel_rfl) (by decide) (fun K hK => ?_)
 refine cl4_ BK_d.out ?_; intro lc11_0 lc11_1 lc11_2 lc11_3 lf11_0 lf11_1 lf11_2 lf11_3
 refine skip_ (w1 := ?_) (by rfl) rfl ?_ ?_
 rotate_left
 ·go_simp
  rfl
 clear lc11_0 lc11_1 lc11_2 lc11_3 lf11_0 lf11_1 lf11_2 lf11_3
 generalize hw_ : World.setCell (World.setCell (World.setCell (World.setCell w5 ⟨d, 0, none⟩ _) ⟨d, 1, none⟩ _) ⟨d, 2, none⟩ _) ⟨d, 3, none⟩ _ = w6
 have hput : w6.heap[d]? = some (.cells #[.int .i64 (x.t), .slice A' al.length k', .int .i64 code, .bool false] 48 (0, 0)) := (by rw [← hw_]; refine blk_put (cs := #[.int .i64 (x.t), .slice A' al.length k', .int .i64 code, .bool false]) ?_ 3 _ rfl; refine blk_put (cs := #[.int .i64 (x.t), .slice A' al.length k', .int .i64 0, .bool false]) ?_ 2 _ rfl; refine blk_put (cs := #[.int .i64 (x.t), .slice none 0 0, .int .i64 0, .bool false]) ?_ 1 _ rfl; refine blk_put (cs := #[.int .i64 0, .slice none 0 0, .int .i64 0, .bool false]) ?_ 0 _ rfl; exact BK_d.out)
 have HEc : Ext (fun k => k = d) w5 w6 := (by rw [← hw_]; exact ((((Ext.refl _ _).setg _).setg _).setg _).setg _)
 clear hw_
 replace OB_l := Aside0.mk (ks_mv OB_l.out HEc NE_l_d.out)
 replace IR_n := Aside0.mk (irow_set IR_n.out HEc BK_d.out (by decide))
 replace KP := Aside0.mk (keeps_set KP.out HEc BK_d.out (.inr (.inr RG_d.out)))
 replace BK_g := Aside0.mk (Ext.blk HEc BK_g.out NE_g_d.out)
 replace BK_go := Aside0.mk (Ext.blk HEc BK_go.out NE_go_d.out)
 replace BK_a := Aside0.mk (Ext.blk HEc BK_a.out NE_a_d.out)
 replace MP_m := Aside0.mk (IsMap.ext MP_m.out HEc NE_m_d.out)
 replace XT := Aside0.mk (XT.out.step HEc (F_d.out))
 clear BK_d
 have BK_d : Aside0 (w6.heap[d]? = some (.cells #[.int .i64 (x.t), .slice A' al.length k', .int .i64 code, .bool false] 48 (0, 0))) := ⟨hput⟩
 clear hput HEc
 refine hK.out _ _ ?_
 clear hK K
 refine done_ (by kernel_rfl) ?_
 refine cl10_ BK_g.out ?_; intro lc12_0 lc12_1 lc12_2 lc12_3 lc12_4 lc12_5 lc12_6 lc12_7 lc12_8 lc12_9 lf12_0 lf12_1 lf12_2 lf12_3 lf12_4 lf12_5 lf12_6 lf12_7 lf12_8 lf12_9
 refine cl9_ BK_go.out ?_; intro lc13_0 lc13_1 lc13_2 lc13_3 lc13_4 lc13_5 lc13_6 lc13_7 lc13_8 lf13_0 lf13_1 lf13_2 lf13_3 lf13_4 lf13_5 lf13_6 lf13_7 lf13_8
 refine cl2_ BK_a.out ?_; intro lc14_0 lc14_1 lf14_0 lf14_1
 refine cl4_ BK_d.out ?_; intro lc15_0 lc15_1 lc15_2 lc15_3 lf15_0 lf15_1 lf15_2 lf15_3
 go_wp2_with (first | ((with_reducible refine gate_store (p := 61) rfl ?_); refine store_event (w1 := ?_) rfl (p := 61) rfl rfl ?hr ?_; rotate_left; (case hr => go_simp; rfl); intro w7 hw_; obtain ⟨hput, HEc⟩ := put1 (cs' := #[.int .i64 wait, .int .i64 again, .int .i64 pause, .int .i64 t, .int .i64 tk, vl, .pointer none, .int .i64 times, .int .i64 last, .map (some m)]) hw_ BK_g.out rfl; clear hw_; replace OB_l := Aside0.mk (ks_mv OB_l.out HEc NE_l_g.out); replace IR_n := Aside0.mk (irow_set IR_n.out HEc BK_g.out (by decide)); replace KP := Aside0.mk (keeps_set KP.out HEc BK_g.out (.inl rfl)); clear lc12_0 lc12_1 lc12_2 lc12_3 lc12_4 lc12_5 lc12_6 lc12_7 lc12_8 lc12_9 lf12_0 lf12_1 lf12_2 lf12_3 lf12_4 lf12_5 lf12_6 lf12_7 lf12_8 lf12_9 lc13_0 lc13_1 lc13_2 lc13_3 lc13_4 lc13_5 lc13_6 lc13_7 lc13_8 lf13_0 lf13_1 lf13_2 lf13_3 lf13_4 lf13_5 lf13_6 lf13_7 lf13_8 lc14_0 lc14_1 lf14_0 lf14_1 lc15_0 lc15_1 lc15_2 lc15_3 lf15_0 lf15_1 lf15_2 lf15_3; replace BK_go := Aside0.mk (Ext.blk HEc BK_go.out NE_go_g.out); replace BK_a := Aside0.mk (Ext.blk HEc BK_a.out NE_a_g.out); replace BK_d := Aside0.mk (Ext.blk HEc BK_d.out NE_d_g.out); replace MP_m := Aside0.mk (IsMap.ext MP_m.out HEc NE_m_g.out); replace XT := Aside0.mk (XT.out.step HEc (F_g.out)); clear BK_g; have BK_g : Aside0 (w7.heap[g]? = some (.cells #[.int .i64 wait, .int .i64 again, .int .i64 pause, .int .i64 t, .int .i64 tk, vl, .pointer none, .int .i64 times, .int .i64 last, .map (some m)] 73 (0, 0))) := ⟨hput⟩; clear hput HEc; refine cl10_ BK_g.out ?_; intro lc16_0 lc16_1 lc16_2 lc16_3 lc16_4 lc16_5 lc16_6 lc16_7 lc16_8 lc16_9 lf16_0 lf16_1 lf16_2 lf16_3 lf16_4 lf16_5 lf16_6 lf16_7 lf16_8 lf16_9; refine cl9_ BK_go.out ?_; intro lc17_0 lc17_1 lc17_2 lc17_3 lc17_4 lc17_5 lc17_6 lc17_7 lc17_8 lf17_0 lf17_1 lf17_2 lf17_3 lf17_4 lf17_5 lf17_6 lf17_7 lf17_8; refine cl2_ BK_a.out ?_; intro lc18_0 lc18_1 lf18_0 lf18_1; refine cl4_ BK_d.out ?_; intro lc19_0 lc19_1 lc19_2 lc19_3 lf19_0 lf19_1 lf19_2 lf19_3) | ((with_reducible refine gate_dst (N := 63) rfl ?_); refine bs_ev (N := 63) ?hg ?hd (cs := #[.int .i64 (x.t), .slice A' al.length k', .int .i64 code, .bool false]) (t := 48) (n := 1) ?hr ?_; (case hd => rfl); (case hg => rfl); (case hr => first | (go_simp; done) | (go_simp; rfl)); intro gd hg w8 hbox HBc; have NE_l_gd : Aside0 (∀ k, (vl).ownBlock = some k → k ≠ gd) := ⟨fun k hk e => by have := OwnE.lt OB_l.out k hk; omega⟩; have NE_g_gd : Aside0 (g ≠ gd) := ⟨ne_born (blk_lt BK_g.out) hg⟩; have NE_gd_g : Aside0 (gd ≠ g) := ⟨fun e => NE_g_gd.out e.symm⟩; have NE_go_gd : Aside0 (go ≠ gd) := ⟨ne_born (blk_lt BK_go.out) hg⟩; have NE_gd_go : Aside0 (gd ≠ go) := ⟨fun e => NE_go_gd.out e.symm⟩; have NE_a_gd : Aside0 (a ≠ gd) := ⟨ne_born (blk_lt BK_a.out) hg⟩; have NE_gd_a : Aside0 (gd ≠ a) := ⟨fun e => NE_a_gd.out e.symm⟩; have NE_d_gd : Aside0 (d ≠ gd) := ⟨ne_born (blk_lt BK_d.out) hg⟩; have NE_gd_d : Aside0 (gd ≠ d) := ⟨fun e => NE_d_gd.out e.symm⟩; have NE_m_gd : Aside0 (m ≠ gd) := ⟨ne_born (IsMap.lt MP_m.out) hg⟩; have NE_gd_m : Aside0 (gd ≠ m) := ⟨fun e => NE_m_gd.out e.symm⟩; have F_gd : Aside0 (∀ k, k = gd → (Gm g m) k ∨ w1.heap.size ≤ k) := ⟨fnew hg XT.out.size⟩; have RG_gd : Aside0 (w1.heap.size ≤ gd) := ⟨Nat.le_trans XT.out.size (Nat.le_of_eq hg.symm)⟩; have BG_gd : Aside0 (B ≤ gd) := ⟨Nat.le_trans HBW.out RG_gd.out⟩; clear hg; replace OB_l := Aside0.mk (ks_mv OB_l.out (Ext.none_ HBc) (fun _ _ e => e)); replace IR_n := Aside0.mk (irow_below IR_n.out HBc); replace KP := Aside0.mk (keeps_then KP.out HBc); clear lc16_0 lc16_1 lc16_2 lc16_3 lc16_4 lc16_5 lc16_6 lc16_7 lc16_8 lc16_9 lf16_0 lf16_1 lf16_2 lf16_3 lf16_4 lf16_5 lf16_6 lf16_7 lf16_8 lf16_9 lc17_0 lc17_1 lc17_2 lc17_3 lc17_4 lc17_5 lc17_6 lc17_7 lc17_8 lf17_0 lf17_1 lf17_2 lf17_3 lf17_4 lf17_5 lf17_6 lf17_7 lf17_8 lc18_0 lc18_1 lf18_0 lf18_1 lc19_0 lc19_1 lc19_2 lc19_3 lf19_0 lf19_1 lf19_2 lf19_3; replace BK_g := Aside0.mk (Ext.blk (Ext.none_ HBc) BK_g.out (fun e => e)); replace BK_go := Aside0.mk (Ext.blk (Ext.none_ HBc) BK_go.out (fun e => e)); replace BK_a := Aside0.mk (Ext.blk (Ext.none_ HBc) BK_a.out (fun e => e)); replace BK_d := Aside0.mk (Ext.blk (Ext.none_ HBc) BK_d.out (fun e => e)); replace MP_m := Aside0.mk (IsMap.ext MP_m.out (Ext.none_ HBc) (fun e => e)); replace XT := Aside0.mk (XT.out.stepB HBc); have BK_gd : Aside0 (w8.heap[gd]? = some (.cells #[.int .i64 (x.t), .slice A' al.length k', .int .i64 code, .bool false] 48 (0, 0))) := ⟨hbox⟩; clear hbox HBc))
 go_ret2
 exact ⟨_, rfl, ⟨gd, A', k', rfl, HKC.out, BK_gd.out, IR_n.out⟩, ⟨⟨_, _, BK_g.out, OB_l.out, rfl⟩, ⟨_, _, MP_m.out, HF.out⟩⟩, HBB.out.trans XT.out, HKG.out.trans KP.out⟩
end Go.Proofs.Ytlalpooiegganaa.MsgG
end

section
namespace Go.Proofs.Ytlalpooiegganaa.PG
open Go.RowKit Go.Proofs.YtlalpooiegganaaW.PrintWords Go.Proofs.YtlalpooiegganaaW.PrintLast Go.Proofs.YtlalpooiegganaaW.PrintMore
attribute [local go_sem] max2_int min2_int max_two min_two max_three min_three max_four min_four   
set_option linter.unusedVariables false
set_option linter.unusedSimpArgs false
open Go.Proofs.Ytlalpooiegganaa.Ext Go.Proofs.Ytlalpooiegganaa.PP Go.Proofs.Ytlalpooiegganaa.ExtF Go.Proofs.Ytlalpooiegganaa.ExtM
def basculeref01_Both.f (l0 : List Int) (l1 : List Int) : Option (List Int) := if ([] : List Int).length + l0.length < 140737488355328 then ((some (([] : List Int) ++ l0 : List Int)).bind fun y274 => (if y274.length + l1.length < 140737488355328 then (some (y274 ++ l1)) else (none))) else (none)
set_option maxHeartbeats 8000000 in
set_option maxRecDepth 100000 in
theorem basculeref01_Both.calls (A0 : Option Addr) (c0 : Nat) (l0 : List Int) (A1 : Option Addr) (c1 : Nat) (l1 : List Int) (r : List Int) (w : World) (hr0 : Kd.C (Kd.int .u8) w A0 l0.length l0) (hc0 : l0.length ≤ c0) (hr1 : Kd.C (Kd.int .u8) w A1 l1.length l1) (hc1 : l1.length ≤ c1) (h : basculeref01_Both.f l0 l1 = some r) :
 Calls Try.prog 65 #[.slice A0 l0.length c0, .slice A1 l1.length c1] w fun e w' => ∃ v0_ : Value, e = .returned (v0_) ∧ Kd.R (Kd.int .u8) 5 w' w.heap.size (fun _ => True) v0_ r ∧ Below w.heap.size w w' := by
 have HR0 := Aside0.mk hr0
 have HC0 := Aside0.mk hc0
 clear hr0 hc0
 have HR1 := Aside0.mk hr1
 have HC1 := Aside0.mk hc1
 clear hr1 hc1
 have HB := Aside0.mk (Below.refl w.heap.size w)
 have H : (if ([] : List Int).length + l0.length < 140737488355328 then ((some (([] : List Int) ++ l0 : List Int)).bind fun y274 => (if y274.length + l1.length < 140737488355328 then (some (y274 ++ l1)) else (none))) else (none)) = some r := h
 clear h
 by_cases c3 : ([] : List Int).length + l0.length < 140737488355328
 ·rw [if_pos c3] at H
  have LMc3 := Aside0.mk c3
  clear c3
  obtain ⟨y274, hy274⟩ : ∃ y_ : List Int, y_ = (([] : List Int) ++ l0) := ⟨_, rfl⟩
  replace H : (if y274.length + l1.length < 140737488355328 then (some (y274 ++ l1)) else (none)) = some r := by first | (rw [hy274]; with_reducible exact H) | (have H2_ := (Option.bind_some _ _).symm.trans H; rw [hy274]; with_reducible exact H2_) | (have H2_ := (Option.bind_some _ _).symm.trans H; with_reducible exact H2_) | with_reducible exact H | (rw [hy274]; exact H) | exact H
  have Ny274 := Aside0.mk hy274
  clear hy274
  by_cases c4 : y274.length + l1.length < 140737488355328
  ·rw [if_pos c4] at H
   have LMc4 := Aside0.mk c4
   clear c4
   obtain ⟨y277, hy277⟩ : ∃ y_ : List Int, y_ = (y274 ++ l1) := ⟨_, rfl⟩
   replace H : (some y277) = some r := by first | (rw [hy277]; with_reducible exact H) | (have H2_ := (Option.bind_some _ _).symm.trans H; rw [hy277]; with_reducible exact H2_) | (have H2_ := (Option.bind_some _ _).symm.trans H; with_reducible exact H2_) | with_reducible exact H | (rw [hy277]; exact H) | exact H
   have Ny277 := Aside0.mk hy277
   clear hy277
   obtain rfl := Option.some.inj H
   go_enter Try.func65, Try.ntmps65
   go_wp2_with (first | ((with_reducible refine gate_builtin (b := .append) (xs := #[.tmp 6, .tmp 7]) rfl ?_); at_builtin; refine Kd.R_append_rows (Kd.int .u8) (w0 := w) w.heap.size rfl (.tmp 6) (.tmp 7) 43 5 (.int .u8 0) 1 rfl Try.underlying43 info5 rfl (by decide) (by omega) (.slice none 0 0) ([] : List Int) l0 _ _ _ (fun _ => True) (fun _ => False) rfl rfl ?aO ?aR (fun _ _ h => h) (fun _ h => h.elim) ?aF ?aB ?aS ?aL ?_; (case aR => repeat (first | exact HR0.out | (with_reducible refine Kd.C_alloc ?_ _) | (with_reducible refine Kd.C_drewN ?_ _) | (with_reducible refine Kd.C_drew ?_))); (case aB => exact (bl0_ HB)); (case aF => exact (fun _ _ => trivial)); (case aO => exact ((Kd.R_nil _ _ _ _ (fun _ => True)))); (case aS => exact (below_size (bl0_ HB))); (case aL => have := LMc3.out; omega); intro v275 w5 ho hb hg hat; rw [← Ny274.out] at ho; have n0_ := Aside0.mk (hb); have n1_ := Aside0.mk (ho); clear HB; have HB := n0_; have HO276 := n1_; clear n0_ n1_; clear ho hb hg hat) | ((with_reducible refine gate_builtin (b := .append) (xs := #[.tmp 9, .tmp 10]) rfl ?_); at_builtin; refine Kd.R_append_rows (Kd.int .u8) (w0 := w) w.heap.size rfl (.tmp 9) (.tmp 10) 43 5 (.int .u8 0) 1 rfl Try.underlying43 info5 rfl (by decide) (by omega) v275 y274 l1 _ _ _ (fun _ => True) (fun _ => False) rfl rfl ?aO ?aR (fun _ _ h => h) (fun _ h => h.elim) ?aF ?aB ?aS ?aL ?_; (case aR => exact sc_ (Kd.C_below HR1.out HB.out)); (case aB => exact (bl0_ HB)); (case aF => exact (fun _ _ => trivial)); (case aO => exact (kr_ HO276)); (case aS => exact (below_size (bl0_ HB))); (case aL => have := LMc4.out; omega); intro v278 w6 ho hb hg hat; rw [← Ny277.out] at ho; have n0_ := Aside0.mk (hb); have n1_ := Aside0.mk (ho); clear HB; clear HO276; have HB := n0_; have HO279 := n1_; clear n0_ n1_; clear ho hb hg hat))
   go_ret
   exact ⟨_, er_, kr_ HO279, bl0_ HB⟩
  ·rw [if_neg c4] at H
   exact absurd H (by simp)
 ·rw [if_neg c3] at H
  exact absurd H (by simp)
end Go.Proofs.Ytlalpooiegganaa.PG
end

section
namespace Go.Proofs.Ytlalpooiegganaa.PG
open Go.RowKit Go.Proofs.YtlalpooiegganaaW.PrintWords Go.Proofs.YtlalpooiegganaaW.PrintLast Go.Proofs.YtlalpooiegganaaW.PrintMore
attribute [local go_sem] max2_int min2_int max_two min_two max_three min_three max_four min_four   
set_option linter.unusedVariables false
set_option linter.unusedSimpArgs false
open Go.Proofs.Ytlalpooiegganaa.Ext Go.Proofs.Ytlalpooiegganaa.PP Go.Proofs.Ytlalpooiegganaa.ExtF Go.Proofs.Ytlalpooiegganaa.ExtM
def basculeref03_counted.f (l0 : List Int) : Option (List Int) := (basculeref01_Both.f (([((l0.length : Int)) % 256] : List Int)) l0).bind fun t283 => (some t283)
set_option maxHeartbeats 8000000 in
set_option maxRecDepth 100000 in
theorem basculeref03_counted.calls (A0 : Option Addr) (c0 : Nat) (l0 : List Int) (r : List Int) (w : World) (hr0 : Kd.C (Kd.int .u8) w A0 l0.length l0) (hc0 : l0.length ≤ c0) (h : basculeref03_counted.f l0 = some r) :
 Calls Try.prog 52 #[.slice A0 l0.length c0] w fun e w' => ∃ v0_ : Value, e = .returned (v0_) ∧ Kd.R (Kd.int .u8) 5 w' w.heap.size (fun _ => True) v0_ r ∧ Below w.heap.size w w' := by
 have HR0 := Aside0.mk hr0
 have HC0 := Aside0.mk hc0
 clear hr0 hc0
 have HB := Aside0.mk (Below.refl w.heap.size w)
 have H : ((basculeref01_Both.f (([((l0.length : Int)) % 256] : List Int)) l0).bind fun t283 => (some t283)) = some r := h
 clear h
 obtain ⟨y280, hy280⟩ : ∃ y_ : List Int, y_ = (([((l0.length : Int)) % 256] : List Int)) := ⟨_, rfl⟩
 replace H : ((basculeref01_Both.f y280 l0).bind fun t283 => (some t283)) = some r := by first | (rw [hy280]; with_reducible exact H) | (have H2_ := (Option.bind_some _ _).symm.trans H; rw [hy280]; with_reducible exact H2_) | (have H2_ := (Option.bind_some _ _).symm.trans H; with_reducible exact H2_) | with_reducible exact H | (rw [hy280]; exact H) | exact H
 have Ny280 := Aside0.mk hy280
 clear hy280
 replace H := Option.bind_eq_some_iff.mp H
 obtain ⟨t283, A20, H⟩ := H
 replace H : (some t283) = some r := H
 have A2 := Aside0.mk A20
 clear A20
 obtain rfl := Option.some.inj H
 go_enter Try.func52, Try.ntmps52
 go_wp2_with (first | ((with_reducible refine gate_dst (N := 6) rfl ?_); refine Kd.R_lit (Kd.int .u8) _ 5 ?hg (N := 6) ?hd (xs := ([((l0.length : Int)) % 256] : List Int)) (inner := [.int .u8 (((l0.length : Int)) % 256)]) (ok := fun _ => True) (okp := fun _ => True) ?hr ?hp (fun _ hk => hk) trivial (Below.refl _ _) (Nat.le_refl _) (by simp) ?_; (case hd => rfl); (case hg => rfl); (case hr => first | (go_simp; done) | (go_simp; rfl)); (case hp => exact (Reps.one (show Kd.M (Kd.int .u8) _ _ _ (((l0.length : Int)) % 256) [.int .u8 (((l0.length : Int)) % 256)] from rfl) (Reps.none _ _))); intro v281 w3 ho4 hb hg_ hnew_; clear hg_ hnew_; (first | rw [← Ny280.out] at ho4 | (simp only [Int.reduceToNat] at ho4; rw [← Ny280.out] at ho4)); have n0_ := Aside0.mk (Kd.R_lower ho4 (below_size (bl0_ HB))); have n1_ := Aside0.mk (below_step (bl0_ HB) hb); clear HB; have HO282 := n0_; have HB := n1_; clear n0_ n1_; clear hb ho4; obtain ⟨Ao5, co5, eo5⟩ := Kd.R_slice HO282.out; subst eo5) | ((with_reducible refine gate_callee (f := 65) rfl ?_); refine goesL_ (some 8) rfl rfl Try.func65 (by kernel_rfl) rfl #[.slice Ao5 y280.length co5, .slice A0 l0.length c0] rfl ar_ ?_; (with_reducible refine (basculeref01_Both.calls _ _ y280 _ _ l0 t283 _ ?side1 ?side2 ?side3 ?side4 A2.out).mono ?_); (case side1 => exact sc_ (Kd.R_reads' HO282.out).2.2); (case side2 => exact (Kd.R_reads' HO282.out).2.1); (case side3 => exact sc_ (Kd.C_below HR0.out HB.out)); (case side4 => exact HC0.out); rintro e w6 ⟨v284, rfl, ho0, hb⟩; refine ⟨_, rfl, ?_⟩; have n0_ := Aside0.mk (Kd.R_elder' (kr_ HO282) (Kd.R_base ho0) hb); have n1_ := Aside0.mk (Kd.R_lower (Kd.R_new' ho0 (Kd.R_lt (kr_ HO282))) (below_size (bl0_ HB))); have n2_ := Aside0.mk (below_step (bl0_ HB) hb); clear HO282; clear HB; have HO282 := n0_; have HO285 := n1_; have HB := n2_; clear n0_ n1_ n2_; (try clear hb); (try clear hb2); (try clear hk); (try clear hi); (try clear ho0)))
 go_ret
 exact ⟨_, er_, by (with_reducible repeat (first | apply Kd.R_alloc | apply Kd.R_drewN | apply Kd.R_drew)); exact Kd.R_mono HO285.out (fun _ hk => trivial), bl0_ HB⟩
end Go.Proofs.Ytlalpooiegganaa.PG
end

section
namespace Go.Proofs.Ytlalpooiegganaa.PG
open Go.RowKit Go.Proofs.YtlalpooiegganaaW.PrintWords Go.Proofs.YtlalpooiegganaaW.PrintLast Go.Proofs.YtlalpooiegganaaW.PrintMore
attribute [local go_sem] max2_int min2_int max_two min_two max_three min_three max_four min_four   
set_option linter.unusedVariables false
set_option linter.unusedSimpArgs false
open Go.Proofs.Ytlalpooiegganaa.Ext Go.Proofs.Ytlalpooiegganaa.PP Go.Proofs.Ytlalpooiegganaa.ExtF Go.Proofs.Ytlalpooiegganaa.ExtM
mutual
def basculeref01_Pack.l0 : Nat → List Int → List Int → Int → Option (List Int)
 | 0, _, _, _ => none
 | k + 1, x0, x3, x4 => if x4 < (x0.length : Int) then (basculeref01_Pack.l1 k x0 x3 x4 0 1 x4) else (some x3)
def basculeref01_Pack.l1 : Nat → List Int → List Int → Int → Int → Int → Int → Option (List Int)
 | 0, _, _, _, _, _, _ => none
 | k + 1, x0, x3, x4, x5, x6, x7 => if x7 < (wrap64 (x4 + 8)) then (if x7 < (x0.length : Int) then (if 0 ≤ x7 then (basculeref01_Pack.l1 k x0 x3 x4 (wrap64 (x5 + (wrap64 (x6 * (rd x0 x7))))) (wrap64 (2 * x6)) (wrap64 (x7 + 1))) else (none)) else (if x3.length < 140737488355328 then (basculeref01_Pack.l0 k x0 (x3 ++ [(x5) % 256]) (wrap64 (x4 + 8))) else (none))) else (if x3.length < 140737488355328 then (basculeref01_Pack.l0 k x0 (x3 ++ [(x5) % 256]) (wrap64 (x4 + 8))) else (none))
end
def basculeref01_Pack.f (k : Nat) (l0 : List Int) : Option (List Int) := basculeref01_Pack.l0 k l0 ([] : List Int) 0
theorem basculeref01_Pack.mono_l : ∀ k, (∀ y0 y1 y2, LeO (basculeref01_Pack.l0 k y0 y1 y2) (basculeref01_Pack.l0 (k + 1) y0 y1 y2)) ∧ (∀ y0 y1 y2 y3 y4 y5, LeO (basculeref01_Pack.l1 k y0 y1 y2 y3 y4 y5) (basculeref01_Pack.l1 (k + 1) y0 y1 y2 y3 y4 y5))
 | 0 => ⟨fun _ _ _ r h => by simp [basculeref01_Pack.l0] at h, fun _ _ _ _ _ _ r h => by simp [basculeref01_Pack.l1] at h⟩
 | k + 1 => by
  obtain ⟨ih0, ih1⟩ := basculeref01_Pack.mono_l k
  refine ⟨?_, ?_⟩
  ·intro y0 y1 y2
   unfold basculeref01_Pack.l0
   repeat' first
   | (with_reducible exact ih0 _ _ _)
   | (with_reducible exact ih1 _ _ _ _ _ _)
   | (with_reducible exact LeO.refl _)
   | (with_reducible exact LeO.none _)
   | (with_reducible refine LeO.ite ?_ ?_)
   | (with_reducible refine LeO.bind ?_ (fun _ => ?_))
   | exact ih0 _ _ _
   | exact ih1 _ _ _ _ _ _
   | exact LeO.none _
   | refine LeO.ite ?_ ?_
   | refine LeO.bind ?_ (fun _ => ?_)
  ·intro y0 y1 y2 y3 y4 y5
   unfold basculeref01_Pack.l1
   repeat' first
   | (with_reducible exact ih0 _ _ _)
   | (with_reducible exact ih1 _ _ _ _ _ _)
   | (with_reducible exact LeO.refl _)
   | (with_reducible exact LeO.none _)
   | (with_reducible refine LeO.ite ?_ ?_)
   | (with_reducible refine LeO.bind ?_ (fun _ => ?_))
   | exact ih0 _ _ _
   | exact ih1 _ _ _ _ _ _
   | exact LeO.none _
   | refine LeO.ite ?_ ?_
   | refine LeO.bind ?_ (fun _ => ?_)
theorem basculeref01_Pack.mono : ∀ a0 k, LeO (basculeref01_Pack.f k a0) (basculeref01_Pack.f (k + 1) a0) := by
 intro a0 k
 obtain ⟨ih0, ih1⟩ := basculeref01_Pack.mono_l k
 unfold basculeref01_Pack.f
 repeat' first
  | (with_reducible exact ih0 _ _ _)
  | (with_reducible exact ih1 _ _ _ _ _ _)
  | (with_reducible exact LeO.refl _)
  | (with_reducible exact LeO.none _)
  | (with_reducible refine LeO.ite ?_ ?_)
  | (with_reducible refine LeO.bind ?_ (fun _ => ?_))
  | exact ih0 _ _ _
  | exact ih1 _ _ _ _ _ _
  | exact LeO.none _
  | refine LeO.ite ?_ ?_
  | refine LeO.bind ?_ (fun _ => ?_)
set_option maxHeartbeats 8000000 in
set_option maxRecDepth 100000 in
theorem basculeref01_Pack.calls (k : Nat) (A0 : Option Addr) (c0 : Nat) (l0 : List Int) (r : List Int) (w : World) (hr0 : Kd.C (Kd.int .i64) w A0 l0.length l0) (hc0 : l0.length ≤ c0) (h : basculeref01_Pack.f k l0 = some r) :
 Calls Try.prog 53 #[.slice A0 l0.length c0] w fun e w' => ∃ v0_ : Value, e = .returned (v0_) ∧ Kd.R (Kd.int .u8) 5 w' w.heap.size (fun _ => True) v0_ r ∧ Below w.heap.size w w' := by
 have HR0 := Aside0.mk hr0
 have HC0 := Aside0.mk hc0
 clear hr0 hc0
 have HB := Aside0.mk (Below.refl w.heap.size w)
 have H : (basculeref01_Pack.l0 k l0 ([] : List Int) 0) = some r := h
 clear h
 have H' := Aside0.mk H
 clear H
 go_enter Try.func53, Try.ntmps53
 go_wp2
 go_loopg [3, 4] k (fun kq v3 v4 w' => ∃ (x3_1 : List Int) (x4_1 : Int), v4 = .int .i64 x4_1 ∧ Aside0 (basculeref01_Pack.l0 kq l0 x3_1 x4_1 = some r) ∧ Aside0 (kq ≤ k) ∧ Aside0 (Kd.R (Kd.int .u8) 5 w' w.heap.size (fun _ => True) v3 x3_1) ∧ Aside0 (Below w.heap.size w w'))
 case atStart => exact ⟨(([] : List Int)), (0), (by first | rfl | (simp; done) | (simp [*]; done)), H', ⟨Nat.le_refl _⟩, ⟨by first | exact Kd.R_nil _ _ _ _ _ | exact Kd.N_nil _ _ _ _ _ | exact Kd.V_nil _ _ _ _ _ | exact Kd.Q_nil _ _ _ _ _ | exact Kd.S_nil _ _ _ _ _⟩, ⟨bl0_ HB⟩⟩
 case round =>
  clear H'
  obtain ⟨x3_1, x4_1, rfl, HA, HK1, HO_3, HB⟩ := hrel
  cases gk with
  | zero => exact absurd HA.out (by simp [basculeref01_Pack.l0])
  | succ k1 =>
   have H := HA.out
   clear HA
   simp only [basculeref01_Pack.l0] at H
   by_cases c2 : x4_1 < (l0.length : Int)
   ·rw [if_pos c2] at H
    have c2b0 : decide (x4_1 < (l0.length : Int)) = true := decide_eq_true c2
    clear c2
    have H' := Aside0.mk H
    clear H
    go_wp2
    go_loopg [5, 6, 7] k1 (fun kq v5 v6 v7 w' => ∃ (x5_2 : Int) (x6_2 : Int) (x7_2 : Int), v5 = .int .i64 x5_2 ∧ v6 = .int .i64 x6_2 ∧ v7 = .int .i64 x7_2 ∧ Aside0 (basculeref01_Pack.l1 kq l0 x3_1 x4_1 x5_2 x6_2 x7_2 = some r) ∧ Aside0 (kq ≤ k1) ∧ Aside0 (Kd.R (Kd.int .u8) 5 w' w.heap.size (fun _ => True) u3 x3_1) ∧ Aside0 (Below w.heap.size w w'))
    case atStart => exact ⟨(0), (1), (x4_1), (by first | rfl | (simp; done) | (simp [*]; done)), (by first | rfl | (simp; done) | (simp [*]; done)), (by first | rfl | (simp; done) | (simp [*]; done)), H', ⟨Nat.le_refl _⟩, ⟨kr_ HO_3⟩, ⟨bl0_ HB⟩⟩
    case round =>
     clear H'
     try clear c2
     try clear c2b0
     try clear p2
     obtain ⟨x5_2, x6_2, x7_2, rfl, rfl, rfl, HA, HK2, HO_3, HB⟩ := hrel
     cases gk with
     | zero => exact absurd HA.out (by simp [basculeref01_Pack.l1])
     | succ k2 =>
      have H := HA.out
      clear HA
      simp only [basculeref01_Pack.l1] at H
      by_cases c3 : x7_2 < (wrap64 (x4_1 + 8))
      ·rw [if_pos c3] at H
       have c3b0 : decide (x7_2 < (wrap64 (x4_1 + 8))) = true := decide_eq_true c3
       clear c3
       by_cases c4 : x7_2 < (l0.length : Int)
       ·rw [if_pos c4] at H
        have c4b0 : decide (x7_2 < (l0.length : Int)) = true := decide_eq_true c4
        clear c4
        by_cases c5 : 0 ≤ x7_2
        ·rw [if_pos c5] at H
         have c5b0 : decide (0 ≤ x7_2) = true := decide_eq_true c5
         clear c5
         have H' := Aside0.mk H
         clear H
         have p286 : 0 ≤ (x7_2 : Int) := of_decide_eq_true (by first | (with_reducible assumption) | assumption)
         have q286 : x7_2 < (l0.length : Int) := of_decide_eq_true (by first | (with_reducible assumption) | assumption)
         obtain ⟨ad286, e286, hx286_0⟩ := Kd.at_int HR0.out x7_2 p286 q286
         cases e286
         replace hx286_0 := (HB.out.cell (World.block_lt_of_cell? w _ hx286_0)).trans hx286_0
         replace p286 := eq_true p286
         replace q286 := eq_true q286
         go_wp2
         go_roundg k2
         case measure => have := HK1.out; have := HK2.out; omega
         case rel => exact ⟨(wrap64 (x5_2 + (wrap64 (x6_2 * (rd l0 x7_2))))), (wrap64 (2 * x6_2)), (wrap64 (x7_2 + 1)), (by first | rfl | (simp; done) | (simp [*]; done)), (by first | rfl | (simp; done) | (simp [*]; done)), (by first | rfl | (simp; done) | (simp [*]; done)), H', ⟨by have := HK1.out; have := HK2.out; omega⟩, ⟨kr_ HO_3⟩, ⟨bl0_ HB⟩⟩
        ·rw [if_neg c5] at H
         exact absurd H (by simp)
       ·rw [if_neg c4] at H
        have c4b0 : decide (x7_2 < (l0.length : Int)) = false := decide_eq_false c4
        clear c4
        by_cases c6 : x3_1.length < 140737488355328
        ·rw [if_pos c6] at H
         have LMc6 := Aside0.mk c6
         clear c6
         obtain ⟨y287, hy287⟩ : ∃ y_ : List Int, y_ = (x3_1 ++ [(x5_2) % 256]) := ⟨_, rfl⟩
         replace H : (basculeref01_Pack.l0 k2 l0 y287 (wrap64 (x4_1 + 8))) = some r := by first | (rw [hy287]; with_reducible exact H) | (have H2_ := (Option.bind_some _ _).symm.trans H; rw [hy287]; with_reducible exact H2_) | (have H2_ := (Option.bind_some _ _).symm.trans H; with_reducible exact H2_) | with_reducible exact H | (rw [hy287]; exact H) | exact H
         have Ny287 := Aside0.mk hy287
         clear hy287
         have H' := Aside0.mk H
         clear H
         go_wp2_with (first | ((with_reducible refine gate_builtin (b := .append) (xs := #[.tmp 37, .tmp 40]) rfl ?_); (try (refine gate_guard (by rfl) ?_; dsimp only)); at_builtin; refine Kd.R_append (Kd.int .u8) (w0 := w) w.heap.size rfl (.tmp 37) (.tmp 40) 43 5 (.int .u8 0) 1 rfl Try.underlying43 info5 rfl (by decide) (by omega) u3 x3_1 ((x5_2) % 256) [.int .u8 ((x5_2) % 256)] (fun _ => True) (fun _ => False) rfl rfl ?aP (fun _ hk => hk.elim) ?aF ?aO ?aB ?aS ?aL ?_; (case aP => exact rfl); (case aB => exact (bl0_ HB)); (case aF => exact (fun _ _ => trivial)); (case aO => exact (kr_ HO_3)); (case aS => exact (below_size (bl0_ HB))); (case aL => have := LMc6.out; omega); intro v288 w7 ho hb hg hat; rw [← Ny287.out] at ho; have n0_ := Aside0.mk (hb); have n1_ := Aside0.mk (ho); clear HB; clear HO_3; have HB := n0_; have HO289 := n1_; clear n0_ n1_; clear ho hb hg hat))
         go_roundg k2
         case measure => have := HK1.out; have := HK2.out; omega
         case rel => exact ⟨(y287), (wrap64 (x4_1 + 8)), (by first | rfl | (simp; done) | (simp [*]; done)), H', ⟨by have := HK1.out; have := HK2.out; omega⟩, ⟨kr_ HO289⟩, ⟨bl0_ HB⟩⟩
        ·rw [if_neg c6] at H
         exact absurd H (by simp)
      ·rw [if_neg c3] at H
       have c3b0 : decide (x7_2 < (wrap64 (x4_1 + 8))) = false := decide_eq_false c3
       clear c3
       by_cases c8 : x3_1.length < 140737488355328
       ·rw [if_pos c8] at H
        have LMc8 := Aside0.mk c8
        clear c8
        obtain ⟨y290, hy290⟩ : ∃ y_ : List Int, y_ = (x3_1 ++ [(x5_2) % 256]) := ⟨_, rfl⟩
        replace H : (basculeref01_Pack.l0 k2 l0 y290 (wrap64 (x4_1 + 8))) = some r := by first | (rw [hy290]; with_reducible exact H) | (have H2_ := (Option.bind_some _ _).symm.trans H; rw [hy290]; with_reducible exact H2_) | (have H2_ := (Option.bind_some _ _).symm.trans H; with_reducible exact H2_) | with_reducible exact H | (rw [hy290]; exact H) | exact H
        have Ny290 := Aside0.mk hy290
        clear hy290
        have H' := Aside0.mk H
        clear H
        go_wp2_with (first | ((with_reducible refine gate_builtin (b := .append) (xs := #[.tmp 37, .tmp 40]) rfl ?_); (try (refine gate_guard (by rfl) ?_; dsimp only)); at_builtin; refine Kd.R_append (Kd.int .u8) (w0 := w) w.heap.size rfl (.tmp 37) (.tmp 40) 43 5 (.int .u8 0) 1 rfl Try.underlying43 info5 rfl (by decide) (by omega) u3 x3_1 ((x5_2) % 256) [.int .u8 ((x5_2) % 256)] (fun _ => True) (fun _ => False) rfl rfl ?aP (fun _ hk => hk.elim) ?aF ?aO ?aB ?aS ?aL ?_; (case aP => exact rfl); (case aB => exact (bl0_ HB)); (case aF => exact (fun _ _ => trivial)); (case aO => exact (kr_ HO_3)); (case aS => exact (below_size (bl0_ HB))); (case aL => have := LMc8.out; omega); intro v291 w9 ho hb hg hat; rw [← Ny290.out] at ho; have n0_ := Aside0.mk (hb); have n1_ := Aside0.mk (ho); clear HB; clear HO_3; have HB := n0_; have HO292 := n1_; clear n0_ n1_; clear ho hb hg hat))
        go_roundg k2
        case measure => have := HK1.out; have := HK2.out; omega
        case rel => exact ⟨(y290), (wrap64 (x4_1 + 8)), (by first | rfl | (simp; done) | (simp [*]; done)), H', ⟨by have := HK1.out; have := HK2.out; omega⟩, ⟨kr_ HO292⟩, ⟨bl0_ HB⟩⟩
       ·rw [if_neg c8] at H
        exact absurd H (by simp)
   ·rw [if_neg c2] at H
    have c2b0 : decide (x4_1 < (l0.length : Int)) = false := decide_eq_false c2
    clear c2
    obtain rfl := Option.some.inj H
    go_wp2
    go_ret
    exact ⟨_, er_, kr_ HO_3, bl0_ HB⟩
end Go.Proofs.Ytlalpooiegganaa.PG
end

section
namespace Go.Proofs.Ytlalpooiegganaa.PG
open Go.RowKit Go.Proofs.YtlalpooiegganaaW.PrintWords Go.Proofs.YtlalpooiegganaaW.PrintLast Go.Proofs.YtlalpooiegganaaW.PrintMore
attribute [local go_sem] max2_int min2_int max_two min_two max_three min_three max_four min_four   
set_option linter.unusedVariables false
set_option linter.unusedSimpArgs false
open Go.Proofs.Ytlalpooiegganaa.Ext Go.Proofs.Ytlalpooiegganaa.PP Go.Proofs.Ytlalpooiegganaa.ExtF Go.Proofs.Ytlalpooiegganaa.ExtM
def basculeref01_Word.f (a0 : Int) : Option (List Int) := some (([(wrap64 (Int.tdiv a0 256)) % 256, (Int.tmod a0 256) % 256] : List Int))
set_option maxHeartbeats 8000000 in
set_option maxRecDepth 100000 in
theorem basculeref01_Word.calls (a0 : Int) (r : List Int) (w : World) (h : basculeref01_Word.f a0 = some r) :
 Calls Try.prog 66 #[.int .i64 a0] w fun e w' => ∃ v0_ : Value, e = .returned (v0_) ∧ Kd.R (Kd.int .u8) 5 w' w.heap.size (fun _ => True) v0_ r ∧ Below w.heap.size w w' := by
 have HB := Aside0.mk (Below.refl w.heap.size w)
 have H : (some (([(wrap64 (Int.tdiv a0 256)) % 256, (Int.tmod a0 256) % 256] : List Int))) = some r := h
 clear h
 obtain ⟨y293, hy293⟩ : ∃ y_ : List Int, y_ = (([(wrap64 (Int.tdiv a0 256)) % 256, (Int.tmod a0 256) % 256] : List Int)) := ⟨_, rfl⟩
 replace H : (some y293) = some r := by first | (rw [hy293]; with_reducible exact H) | (have H2_ := (Option.bind_some _ _).symm.trans H; rw [hy293]; with_reducible exact H2_) | (have H2_ := (Option.bind_some _ _).symm.trans H; with_reducible exact H2_) | with_reducible exact H | (rw [hy293]; exact H) | exact H
 have Ny293 := Aside0.mk hy293
 clear hy293
 obtain rfl := Option.some.inj H
 go_enter Try.func66, Try.ntmps66
 go_wp2_with (first | ((with_reducible refine gate_dst (N := 9) rfl ?_); refine Kd.R_lit (Kd.int .u8) _ 5 ?hg (N := 9) ?hd (xs := ([(wrap64 (Int.tdiv a0 256)) % 256, (Int.tmod a0 256) % 256] : List Int)) (inner := [.int .u8 ((wrap64 (Int.tdiv a0 256)) % 256), .int .u8 ((Int.tmod a0 256) % 256)]) (ok := fun _ => True) (okp := fun _ => True) ?hr ?hp (fun _ hk => hk) trivial (Below.refl _ _) (Nat.le_refl _) (by simp) ?_; (case hd => rfl); (case hg => rfl); (case hr => first | (go_simp; done) | (go_simp; rfl)); (case hp => exact (Reps.one (show Kd.M (Kd.int .u8) _ _ _ ((wrap64 (Int.tdiv a0 256)) % 256) [.int .u8 ((wrap64 (Int.tdiv a0 256)) % 256)] from rfl) (Reps.one (show Kd.M (Kd.int .u8) _ _ _ ((Int.tmod a0 256) % 256) [.int .u8 ((Int.tmod a0 256) % 256)] from rfl) (Reps.none _ _)))); intro v294 w2 ho3 hb hg_ hnew_; clear hg_ hnew_; (first | rw [← Ny293.out] at ho3 | (simp only [Int.reduceToNat] at ho3; rw [← Ny293.out] at ho3)); have n0_ := Aside0.mk (Kd.R_lower ho3 (below_size (bl0_ HB))); have n1_ := Aside0.mk (below_step (bl0_ HB) hb); clear HB; have HO295 := n0_; have HB := n1_; clear n0_ n1_; clear hb ho3))
 go_ret
 exact ⟨_, er_, kr_ HO295, bl0_ HB⟩
end Go.Proofs.Ytlalpooiegganaa.PG
end

section
namespace Go.Proofs.Ytlalpooiegganaa.PG
open Go.RowKit Go.Proofs.YtlalpooiegganaaW.PrintWords Go.Proofs.YtlalpooiegganaaW.PrintLast Go.Proofs.YtlalpooiegganaaW.PrintMore
attribute [local go_sem] max2_int min2_int max_two min_two max_three min_three max_four min_four   
set_option linter.unusedVariables false
set_option linter.unusedSimpArgs false
open Go.Proofs.Ytlalpooiegganaa.Ext Go.Proofs.Ytlalpooiegganaa.PP Go.Proofs.Ytlalpooiegganaa.ExtF Go.Proofs.Ytlalpooiegganaa.ExtM
def basculeref03_lay.l0 : Nat → List Int → List Int → Int → Option (List Int)
 | 0, _, _, _ => none
 | k + 1, x0, x3, x4 => if x4 < (x0.length : Int) then (if 0 ≤ x4 then ((basculeref01_Word.f (rd x0 x4)).bind fun t297 => (if x3.length + t297.length < 140737488355328 then (basculeref03_lay.l0 k x0 (x3 ++ t297) (wrap64 (x4 + 1))) else (none))) else (none)) else (some x3)
def basculeref03_lay.f (k : Nat) (l0 : List Int) : Option (List Int) := basculeref03_lay.l0 k l0 ([] : List Int) 0
theorem basculeref03_lay.mono_l : ∀ k, (∀ y0 y1 y2, LeO (basculeref03_lay.l0 k y0 y1 y2) (basculeref03_lay.l0 (k + 1) y0 y1 y2))
 | 0 => fun _ _ _ r h => by simp [basculeref03_lay.l0] at h
 | k + 1 => by
  have ih0 := basculeref03_lay.mono_l k
  ·intro y0 y1 y2
   unfold basculeref03_lay.l0
   repeat' first
   | (with_reducible exact ih0 _ _ _)
   | (with_reducible exact LeO.refl _)
   | (with_reducible exact LeO.none _)
   | (with_reducible refine LeO.ite ?_ ?_)
   | (with_reducible refine LeO.bind ?_ (fun _ => ?_))
   | exact ih0 _ _ _
   | exact LeO.none _
   | refine LeO.ite ?_ ?_
   | refine LeO.bind ?_ (fun _ => ?_)
theorem basculeref03_lay.mono : ∀ a0 k, LeO (basculeref03_lay.f k a0) (basculeref03_lay.f (k + 1) a0) := by
 intro a0 k
 have ih0 := basculeref03_lay.mono_l k
 unfold basculeref03_lay.f
 repeat' first
  | (with_reducible exact ih0 _ _ _)
  | (with_reducible exact LeO.refl _)
  | (with_reducible exact LeO.none _)
  | (with_reducible refine LeO.ite ?_ ?_)
  | (with_reducible refine LeO.bind ?_ (fun _ => ?_))
  | exact ih0 _ _ _
  | exact LeO.none _
  | refine LeO.ite ?_ ?_
  | refine LeO.bind ?_ (fun _ => ?_)
set_option maxHeartbeats 8000000 in
set_option maxRecDepth 100000 in
theorem basculeref03_lay.calls (k : Nat) (A0 : Option Addr) (c0 : Nat) (l0 : List Int) (r : List Int) (w : World) (hr0 : Kd.C (Kd.int .i64) w A0 l0.length l0) (hc0 : l0.length ≤ c0) (h : basculeref03_lay.f k l0 = some r) :
 Calls Try.prog 54 #[.slice A0 l0.length c0] w fun e w' => ∃ v0_ : Value, e = .returned (v0_) ∧ Kd.R (Kd.int .u8) 5 w' w.heap.size (fun _ => True) v0_ r ∧ Below w.heap.size w w' := by
 have HR0 := Aside0.mk hr0
 have HC0 := Aside0.mk hc0
 clear hr0 hc0
 have HB := Aside0.mk (Below.refl w.heap.size w)
 have H : (basculeref03_lay.l0 k l0 ([] : List Int) 0) = some r := h
 clear h
 have H' := Aside0.mk H
 clear H
 go_enter Try.func54, Try.ntmps54
 go_wp2
 go_loopg [3, 4] k (fun kq v3 v4 w' => ∃ (x3_1 : List Int) (x4_1 : Int), v4 = .int .i64 x4_1 ∧ Aside0 (basculeref03_lay.l0 kq l0 x3_1 x4_1 = some r) ∧ Aside0 (kq ≤ k) ∧ Aside0 (Kd.R (Kd.int .u8) 5 w' w.heap.size (fun _ => True) v3 x3_1) ∧ Aside0 (Below w.heap.size w w'))
 case atStart => exact ⟨(([] : List Int)), (0), (by first | rfl | (simp; done) | (simp [*]; done)), H', ⟨Nat.le_refl _⟩, ⟨by first | exact Kd.R_nil _ _ _ _ _ | exact Kd.N_nil _ _ _ _ _ | exact Kd.V_nil _ _ _ _ _ | exact Kd.Q_nil _ _ _ _ _ | exact Kd.S_nil _ _ _ _ _⟩, ⟨bl0_ HB⟩⟩
 case round =>
  clear H'
  obtain ⟨x3_1, x4_1, rfl, HA, HK1, HO_3, HB⟩ := hrel
  cases gk with
  | zero => exact absurd HA.out (by simp [basculeref03_lay.l0])
  | succ k1 =>
   have H := HA.out
   clear HA
   simp only [basculeref03_lay.l0] at H
   by_cases c2 : x4_1 < (l0.length : Int)
   ·rw [if_pos c2] at H
    have c2b0 : decide (x4_1 < (l0.length : Int)) = true := decide_eq_true c2
    clear c2
    by_cases c3 : 0 ≤ x4_1
    ·rw [if_pos c3] at H
     have c3b0 : decide (0 ≤ x4_1) = true := decide_eq_true c3
     clear c3
     replace H := Option.bind_eq_some_iff.mp H
     obtain ⟨t297, A40, H⟩ := H
     replace H : (if x3_1.length + t297.length < 140737488355328 then (basculeref03_lay.l0 k1 l0 (x3_1 ++ t297) (wrap64 (x4_1 + 1))) else (none)) = some r := H
     have A4 := Aside0.mk A40
     clear A40
     by_cases c5 : x3_1.length + t297.length < 140737488355328
     ·rw [if_pos c5] at H
      have LMc5 := Aside0.mk c5
      clear c5
      obtain ⟨y300, hy300⟩ : ∃ y_ : List Int, y_ = (x3_1 ++ t297) := ⟨_, rfl⟩
      replace H : (basculeref03_lay.l0 k1 l0 y300 (wrap64 (x4_1 + 1))) = some r := by first | (rw [hy300]; with_reducible exact H) | (have H2_ := (Option.bind_some _ _).symm.trans H; rw [hy300]; with_reducible exact H2_) | (have H2_ := (Option.bind_some _ _).symm.trans H; with_reducible exact H2_) | with_reducible exact H | (rw [hy300]; exact H) | exact H
      have Ny300 := Aside0.mk hy300
      clear hy300
      have H' := Aside0.mk H
      clear H
      have p296 : 0 ≤ (x4_1 : Int) := of_decide_eq_true (by first | (with_reducible assumption) | assumption)
      have q296 : x4_1 < (l0.length : Int) := of_decide_eq_true (by first | (with_reducible assumption) | assumption)
      obtain ⟨ad296, e296, hx296_0⟩ := Kd.at_int HR0.out x4_1 p296 q296
      cases e296
      replace hx296_0 := (HB.out.cell (World.block_lt_of_cell? w _ hx296_0)).trans hx296_0
      replace p296 := eq_true p296
      replace q296 := eq_true q296
      go_wp2_with (first | ((with_reducible refine gate_callee (f := 66) rfl ?_); refine goesL_ (some 16) rfl rfl Try.func66 (by kernel_rfl) rfl #[.int .i64 (rd l0 x4_1)] rfl ar_ ?_; (with_reducible refine (basculeref01_Word.calls (rd l0 x4_1) t297 _ A4.out).mono ?_); rintro e w6 ⟨v298, rfl, ho0, hb⟩; refine ⟨_, rfl, ?_⟩; have n0_ := Aside0.mk (Kd.R_elder' (kr_ HO_3) (Kd.R_base ho0) hb); have n1_ := Aside0.mk (Kd.R_lower (Kd.R_new' ho0 (Kd.R_lt (kr_ HO_3))) (below_size (bl0_ HB))); have n2_ := Aside0.mk (below_step (bl0_ HB) hb); clear HO_3; clear HB; have HO_3 := n0_; have HO299 := n1_; have HB := n2_; clear n0_ n1_ n2_; (try clear hb); (try clear hb2); (try clear hk); (try clear hi); (try clear ho0); obtain ⟨Ao8, co8, eo8⟩ := Kd.R_slice HO299.out; subst eo8) | ((with_reducible refine gate_builtin (b := .append) (xs := #[.tmp 11, .tmp 16]) rfl ?_); at_builtin; refine Kd.R_append_rows (Kd.int .u8) (w0 := w) w.heap.size rfl (.tmp 11) (.tmp 16) 43 5 (.int .u8 0) 1 rfl Try.underlying43 info5 rfl (by decide) (by omega) u3 x3_1 t297 _ _ _ (fun k_ => some k_ ≠ (.slice Ao8 t297.length co8 : Value).ownBlock) (fun _ => False) rfl rfl ?aO ?aR (fun _ _ h => h) (fun _ h => h.elim) ?aF ?aB ?aS ?aL ?_; (case aR => exact sc_ (Kd.R_reads' HO299.out).2.2); (case aB => exact (bl0_ HB)); (case aF => exact (fun k_ hk => Kd.fresh' (Kd.R_lt (kr_ HO299)) k_ hk)); (case aO => exact (by (with_reducible repeat (first | apply Kd.R_alloc | apply Kd.R_drewN | apply Kd.R_drew)); exact Kd.R_mono HO_3.out (fun _ hk => hk.2))); (case aS => exact (below_size (bl0_ HB))); (case aL => have := LMc5.out; omega); intro v301 w7 ho hb hg hat; rw [← Ny300.out] at ho; have n0_ := Aside0.mk (Kd.R_after (ok := (fun _ => True)) (kr_ HO299) hg hat); have n1_ := Aside0.mk (hb); have n2_ := Aside0.mk (ho); clear HO299; clear HB; clear HO_3; have HO299 := n0_; have HB := n1_; have HO302 := n2_; clear n0_ n1_ n2_; clear ho hb hg hat))
      go_roundg k1
      case measure => have := HK1.out; omega
      case rel => exact ⟨(y300), (wrap64 (x4_1 + 1)), (by first | rfl | (simp; done) | (simp [*]; done)), H', ⟨by have := HK1.out; omega⟩, ⟨by (with_reducible repeat (first | apply Kd.R_alloc | apply Kd.R_drewN | apply Kd.R_drew)); exact Kd.R_mono HO302.out (fun _ hk => trivial)⟩, ⟨bl0_ HB⟩⟩
     ·rw [if_neg c5] at H
      exact absurd H (by simp)
    ·rw [if_neg c3] at H
     exact absurd H (by simp)
   ·rw [if_neg c2] at H
    have c2b0 : decide (x4_1 < (l0.length : Int)) = false := decide_eq_false c2
    clear c2
    obtain rfl := Option.some.inj H
    go_wp2
    go_ret
    exact ⟨_, er_, kr_ HO_3, bl0_ HB⟩
end Go.Proofs.Ytlalpooiegganaa.PG
end

section
namespace Go.Proofs.Ytlalpooiegganaa.PG
open Go.RowKit Go.Proofs.YtlalpooiegganaaW.PrintWords Go.Proofs.YtlalpooiegganaaW.PrintLast Go.Proofs.YtlalpooiegganaaW.PrintMore
attribute [local go_sem] max2_int min2_int max_two min_two max_three min_three max_four min_four   
set_option linter.unusedVariables false
set_option linter.unusedSimpArgs false
open Go.Proofs.Ytlalpooiegganaa.Ext Go.Proofs.Ytlalpooiegganaa.PP Go.Proofs.Ytlalpooiegganaa.ExtF Go.Proofs.Ytlalpooiegganaa.ExtM
def basculeref03_Bytes.j0 : Nat → List Int → Int → Bool → Int → Int → Int → List Int → Int → Int → Int → Option (List Int)
 | 0, _, _, _, _, _, _, _, _, _, _ => none
 | k + 1, x3, x9, x10, x304000, x304001, x304002, x304003, x304004, x304005, x304006 => if x10 = true then ((basculeref03_lay.f k (([x304001, x304002] : List Int))).bind fun t310 => (if x3.length + t310.length < 140737488355328 then (some (x3 ++ t310)) else (none))) else (if x9 = 5 then (if 0 < (x304003.length : Int) then ((basculeref03_lay.f k (([x304001, wrap64 (65280 * (rd x304003 0))] : List Int))).bind fun t320 => (if x3.length + t320.length < 140737488355328 then (some (x3 ++ t320)) else (none))) else (none)) else (if x9 = 6 then (if 0 < (x304003.length : Int) then ((basculeref03_lay.f k (([x304001, rd x304003 0] : List Int))).bind fun t330 => (if x3.length + t330.length < 140737488355328 then (some (x3 ++ t330)) else (none))) else (none)) else (if x9 = 15 then ((basculeref03_lay.f k (([x304001, x304002] : List Int))).bind fun t339 => (if x3.length + t339.length < 140737488355328 then ((some (x3 ++ t339 : List Int)).bind fun y342 => ((basculeref01_Pack.f k x304003).bind fun t345 => ((basculeref03_counted.f t345).bind fun t348 => (if y342.length + t348.length < 140737488355328 then (some (y342 ++ t348)) else (none))))) else (none))) else (if x9 = 16 then ((basculeref03_lay.f k (([x304001, x304002] : List Int))).bind fun t357 => (if x3.length + t357.length < 140737488355328 then ((some (x3 ++ t357 : List Int)).bind fun y360 => ((basculeref03_lay.f k x304003).bind fun t363 => ((basculeref03_counted.f t363).bind fun t366 => (if y360.length + t366.length < 140737488355328 then (some (y360 ++ t366)) else (none))))) else (none))) else (if x9 = 22 then ((basculeref03_lay.f k (([x304001, x304005, x304006] : List Int))).bind fun t375 => (if x3.length + t375.length < 140737488355328 then (some (x3 ++ t375)) else (none))) else ((basculeref03_lay.f k (([x304001, x304002, x304004, (x304003.length : Int)] : List Int))).bind fun t384 => (if x3.length + t384.length < 140737488355328 then ((some (x3 ++ t384 : List Int)).bind fun y387 => ((basculeref03_lay.f k x304003).bind fun t390 => ((basculeref03_counted.f t390).bind fun t393 => (if y387.length + t393.length < 140737488355328 then (some (y387 ++ t393)) else (none))))) else (none))))))))
def basculeref03_Bytes.f (k : Nat) (a0_0 : Int) (a0_1 : Int) (a0_2 : Int) (l0_3 : List Int) (a0_4 : Int) (a0_5 : Int) (a0_6 : Int) : Option (List Int) := (some (([(a0_0) % 256] : List Int) : List Int)).bind fun y304 => (if a0_0 = 1 then (basculeref03_Bytes.j0 k y304 a0_0 (a0_0 == 1) a0_0 a0_1 a0_2 l0_3 a0_4 a0_5 a0_6) else (if a0_0 = 2 then (basculeref03_Bytes.j0 k y304 a0_0 (a0_0 == 2) a0_0 a0_1 a0_2 l0_3 a0_4 a0_5 a0_6) else (if a0_0 = 3 then (basculeref03_Bytes.j0 k y304 a0_0 (a0_0 == 3) a0_0 a0_1 a0_2 l0_3 a0_4 a0_5 a0_6) else (basculeref03_Bytes.j0 k y304 a0_0 (a0_0 == 4) a0_0 a0_1 a0_2 l0_3 a0_4 a0_5 a0_6))))
theorem basculeref03_Bytes.mono_l : ∀ k, (∀ y0 y1 y2 y3 y4 y5 y6 y7 y8 y9, LeO (basculeref03_Bytes.j0 k y0 y1 y2 y3 y4 y5 y6 y7 y8 y9) (basculeref03_Bytes.j0 (k + 1) y0 y1 y2 y3 y4 y5 y6 y7 y8 y9))
 | 0 => fun _ _ _ _ _ _ _ _ _ _ r h => by simp [basculeref03_Bytes.j0] at h
 | k + 1 => by
  have ih0 := basculeref03_Bytes.mono_l k
  ·intro y0 y1 y2 y3 y4 y5 y6 y7 y8 y9
   unfold basculeref03_Bytes.j0
   repeat' first
   | (with_reducible exact ih0 _ _ _ _ _ _ _ _ _ _)
   | (with_reducible exact basculeref01_Pack.mono _ _)
   | (with_reducible exact basculeref03_lay.mono _ _)
   | (with_reducible exact LeO.refl _)
   | (with_reducible exact LeO.none _)
   | (with_reducible refine LeO.ite ?_ ?_)
   | (with_reducible refine LeO.bind ?_ (fun _ => ?_))
   | exact ih0 _ _ _ _ _ _ _ _ _ _
   | exact basculeref01_Pack.mono _ _
   | exact basculeref03_lay.mono _ _
   | exact LeO.none _
   | refine LeO.ite ?_ ?_
   | refine LeO.bind ?_ (fun _ => ?_)
theorem basculeref03_Bytes.mono : ∀ a0 a1 a2 a3 a4 a5 a6 k, LeO (basculeref03_Bytes.f k a0 a1 a2 a3 a4 a5 a6) (basculeref03_Bytes.f (k + 1) a0 a1 a2 a3 a4 a5 a6) := by
 intro a0 a1 a2 a3 a4 a5 a6 k
 have ih0 := basculeref03_Bytes.mono_l k
 unfold basculeref03_Bytes.f
 repeat' first
  | (with_reducible exact ih0 _ _ _ _ _ _ _ _ _ _)
  | (with_reducible exact basculeref01_Pack.mono _ _)
  | (with_reducible exact basculeref03_lay.mono _ _)
  | (with_reducible exact LeO.refl _)
  | (with_reducible exact LeO.none _)
  | (with_reducible refine LeO.ite ?_ ?_)
  | (with_reducible refine LeO.bind ?_ (fun _ => ?_))
  | exact ih0 _ _ _ _ _ _ _ _ _ _
  | exact basculeref01_Pack.mono _ _
  | exact basculeref03_lay.mono _ _
  | exact LeO.none _
  | refine LeO.ite ?_ ?_
  | refine LeO.bind ?_ (fun _ => ?_)
def basculeref03_Bytes.T10 : Bool × List (List Nat × List Nat) := (true, [([], []), ([], []), ([1], [1]), ([], []), ([3], [3]), ([4], [4]), ([5], [5]), ([6], [6]), ([2, 7], [2, 7]), ([8], [8]), ([0, 9, 9], [0, 9]), ([10, 10, 0, 1, 2, 3, 4, 5, 6, 7, 8, 9, 10], [0, 10])])
def basculeref03_Bytes.B10 : List Nat := [0, 0, 2, 0, 8, 24, 56, 120, 254, 510, 1023, 2047]
theorem basculeref03_Bytes.tab10 : rtab .any (opsOf Try.f55 10) = basculeref03_Bytes.T10 := by kernel_rfl
theorem basculeref03_Bytes.bits10 : waitsOk basculeref03_Bytes.T10.2 basculeref03_Bytes.B10 = true := by kernel_rfl
def basculeref03_Bytes.T13 : Bool × List (List Nat × List Nat) := (true, [([], []), ([], []), ([1], [1]), ([], []), ([3], [3]), ([4], [4]), ([5], [5]), ([2, 6], [2, 6]), ([7], [7]), ([0, 8, 8], [0, 8]), ([9, 9, 0, 1, 2, 3, 4, 5, 6, 7, 8, 9], [0, 9])])
def basculeref03_Bytes.B13 : List Nat := [0, 0, 2, 0, 8, 24, 56, 126, 254, 511, 1023]
theorem basculeref03_Bytes.tab13 : rtab .any (opsOf Try.f55 13) = basculeref03_Bytes.T13 := by kernel_rfl
theorem basculeref03_Bytes.bits13 : waitsOk basculeref03_Bytes.T13.2 basculeref03_Bytes.B13 = true := by kernel_rfl
set_option maxHeartbeats 8000000 in
set_option maxRecDepth 100000 in
theorem basculeref03_Bytes.calls (k : Nat) (a0_0 : Int) (a0_1 : Int) (a0_2 : Int) (A0_3 : Option Addr) (c0_3 : Nat) (l0_3 : List Int) (a0_4 : Int) (a0_5 : Int) (a0_6 : Int) (r : List Int) (w : World) (hr0_3 : Kd.C (Kd.int .i64) w A0_3 l0_3.length l0_3) (hc0_3 : l0_3.length ≤ c0_3) (h : basculeref03_Bytes.f k a0_0 a0_1 a0_2 l0_3 a0_4 a0_5 a0_6 = some r) :
 Calls Try.prog 55 #[.agg #[.int .i64 a0_0, .int .i64 a0_1, .int .i64 a0_2, .slice A0_3 l0_3.length c0_3, .int .i64 a0_4, .int .i64 a0_5, .int .i64 a0_6]] w fun e w' => ∃ v0_ : Value, e = .returned (v0_) ∧ Kd.R (Kd.int .u8) 5 w' w.heap.size (fun _ => True) v0_ r ∧ Below w.heap.size w w' := by
 have hu31 := Try.underlying31
 have HR0_3 := Aside0.mk hr0_3
 have HC0_3 := Aside0.mk hc0_3
 clear hr0_3 hc0_3
 have HB := Aside0.mk (Below.refl w.heap.size w)
 have H : ((some (([(a0_0) % 256] : List Int) : List Int)).bind fun y304 => (if a0_0 = 1 then (basculeref03_Bytes.j0 k y304 a0_0 (a0_0 == 1) a0_0 a0_1 a0_2 l0_3 a0_4 a0_5 a0_6) else (if a0_0 = 2 then (basculeref03_Bytes.j0 k y304 a0_0 (a0_0 == 2) a0_0 a0_1 a0_2 l0_3 a0_4 a0_5 a0_6) else (if a0_0 = 3 then (basculeref03_Bytes.j0 k y304 a0_0 (a0_0 == 3) a0_0 a0_1 a0_2 l0_3 a0_4 a0_5 a0_6) else (basculeref03_Bytes.j0 k y304 a0_0 (a0_0 == 4) a0_0 a0_1 a0_2 l0_3 a0_4 a0_5 a0_6))))) = some r := h
 clear h
 obtain ⟨y304, hy304⟩ : ∃ y_ : List Int, y_ = (([(a0_0) % 256] : List Int)) := ⟨_, rfl⟩
 replace H : (if a0_0 = 1 then (basculeref03_Bytes.j0 k y304 a0_0 (a0_0 == 1) a0_0 a0_1 a0_2 l0_3 a0_4 a0_5 a0_6) else (if a0_0 = 2 then (basculeref03_Bytes.j0 k y304 a0_0 (a0_0 == 2) a0_0 a0_1 a0_2 l0_3 a0_4 a0_5 a0_6) else (if a0_0 = 3 then (basculeref03_Bytes.j0 k y304 a0_0 (a0_0 == 3) a0_0 a0_1 a0_2 l0_3 a0_4 a0_5 a0_6) else (basculeref03_Bytes.j0 k y304 a0_0 (a0_0 == 4) a0_0 a0_1 a0_2 l0_3 a0_4 a0_5 a0_6)))) = some r := by first | (rw [hy304]; with_reducible exact H) | (have H2_ := (Option.bind_some _ _).symm.trans H; rw [hy304]; with_reducible exact H2_) | (have H2_ := (Option.bind_some _ _).symm.trans H; with_reducible exact H2_) | with_reducible exact H | (rw [hy304]; exact H) | exact H
 have Ny304 := Aside0.mk hy304
 clear hy304
 have HC2 := Aside0.mk H
 clear H
 go_enter Try.func55, Try.ntmps55
 go_upto_if 10 with (first | ((with_reducible refine gate_dst (N := 1) rfl ?_); refine bx_ (N := 1) (cs := #[.int .i64 a0_0, .int .i64 a0_1, .int .i64 a0_2, .slice A0_3 l0_3.length c0_3, .int .i64 a0_4, .int .i64 a0_5, .int .i64 a0_6]) (t := 31) ?_; intro gb303 hg w3 hbox hb; have n0_ := Aside0.mk (below_step (bl0_ HB) hb); have n1_ := Aside0.mk (hbox); have n2_ := Aside0.mk ((by rw [hg]; exact (below_size (bl0_ HB)) : w.heap.size ≤ gb303)); have n3_ := Aside0.mk ((by rw [hg]; exact (below_size (bl0_ HB)) : w.heap.size ≤ gb303)); clear HB; have HB := n0_; have BK303 := n1_; have GW303 := n2_; have GE303 := n3_; clear n0_ n1_ n2_ n3_; clear hb hbox hg; refine cz7_ BK303.out ?_; intro hcz4_0 hcz4_1 hcz4_2 hcz4_3 hcz4_4 hcz4_5 hcz4_6 hfz4_0 hfz4_1 hfz4_2 hfz4_3 hfz4_4 hfz4_5 hfz4_6) | ((with_reducible refine gate_dst (N := 7) rfl ?_); refine Kd.R_lit (Kd.int .u8) _ 5 ?hg (N := 7) ?hd (xs := ([(a0_0) % 256] : List Int)) (inner := [.int .u8 ((a0_0) % 256)]) (ok := fun _ => True) (okp := fun _ => True) ?hr ?hp (fun _ hk => hk) trivial (Below.refl _ _) (Nat.le_refl _) (by simp) ?_; (case hd => rfl); (case hg => rfl); (case hr => first | (go_simp; done) | (go_simp; rfl)); (case hp => exact (Reps.one (show Kd.M (Kd.int .u8) _ _ _ ((a0_0) % 256) [.int .u8 ((a0_0) % 256)] from rfl) (Reps.none _ _))); intro v305 w5 ho6 hb hg_ hnew_; clear hg_ hnew_; (first | rw [← Ny304.out] at ho6 | (simp only [Int.reduceToNat] at ho6; rw [← Ny304.out] at ho6)); have n0_ := Aside0.mk (Kd.R_lower ho6 (below_size (bl1_ HB GE303))); have n1_ := Aside0.mk (blk_below (g := gb303) (bk_ BK303) hb); have n2_ := Aside0.mk (below_step (bl1_ HB GE303) hb); clear BK303; clear HB; have HO306 := n0_; have BK303 := n1_; have HB := n2_; clear n0_ n1_ n2_; clear hb ho6; refine cz7_ BK303.out ?_; intro hcz7_0 hcz7_1 hcz7_2 hcz7_3 hcz7_4 hcz7_5 hcz7_6 hfz7_0 hfz7_1 hfz7_2 hfz7_3 hfz7_4 hfz7_5 hfz7_6))
 (try simp only [Act.put, List.setIfInBounds_toArray, List.set_cons_zero, List.set_cons_succ])
 go_cut [10] (fun v10 wc => ∃ (kq : Nat) (x10_1 : Bool), v10 = .bool x10_1 ∧ Aside0 (basculeref03_Bytes.j0 kq y304 a0_0 x10_1 a0_0 a0_1 a0_2 l0_3 a0_4 a0_5 a0_6 = some r) ∧ Aside0 (kq ≤ k) ∧ Aside0 (Kd.R (Kd.int .u8) 5 wc w.heap.size (fun _ => True) v305 y304) ∧ Aside0 (wc.heap[gb303]? = some (.cells #[.int .i64 a0_0, .int .i64 a0_1, .int .i64 a0_2, (.slice A0_3 l0_3.length c0_3), .int .i64 a0_4, .int .i64 a0_5, .int .i64 a0_6] 31 (0, 0))) ∧ Aside0 (Below w.heap.size w wc))
 case first =>
  have H := HC2.out
  clear HC2
  by_cases c8 : a0_0 = 1
  ·rw [if_pos c8] at H
   have c8b0 : (a0_0 == 1) = true := beq_iff_eq.mpr c8
   have c8b1 : (a0_0 != 1) = false := bne_eq_false_iff_eq.mpr c8
   clear c8
   (first | rw [c8b0] | (simp only [i64_w, i32_w]; rw [c8b0]) | skip)
   have H' := Aside0.mk H
   clear H
   go_wp2
   go_meet
   case rel => exact ⟨_, ((a0_0 == 1)), (by first | rfl | (simp; done) | (simp [*]; done)), H', ⟨by first | omega | exact Nat.le_refl _⟩, ⟨kr_ HO306⟩, ⟨bk_ BK303⟩, ⟨bl1_ HB GE303⟩⟩
  ·rw [if_neg c8] at H
   have c8b0 : (a0_0 == 1) = false := beq_eq_false_iff_ne.mpr c8
   have c8b1 : (a0_0 != 1) = true := bne_iff_ne.mpr c8
   (first | rw [c8b0] | (simp only [i64_w, i32_w]; rw [c8b0]) | skip)
   by_cases c9 : a0_0 = 2
   ·rw [if_pos c9] at H
    have c9b0 : (a0_0 == 2) = true := beq_iff_eq.mpr c9
    have c9b1 : (a0_0 != 2) = false := bne_eq_false_iff_eq.mpr c9
    clear c9
    have H' := Aside0.mk H
    clear H
    go_wp2
    go_meet
    case rel => exact ⟨_, ((a0_0 == 2)), (by first | rfl | (simp; done) | (simp [*]; done)), H', ⟨by first | omega | exact Nat.le_refl _⟩, ⟨kr_ HO306⟩, ⟨bk_ BK303⟩, ⟨bl1_ HB GE303⟩⟩
   ·rw [if_neg c9] at H
    have c9b0 : (a0_0 == 2) = false := beq_eq_false_iff_ne.mpr c9
    have c9b1 : (a0_0 != 2) = true := bne_iff_ne.mpr c9
    by_cases c10 : a0_0 = 3
    ·rw [if_pos c10] at H
     have c10b0 : (a0_0 == 3) = true := beq_iff_eq.mpr c10
     have c10b1 : (a0_0 != 3) = false := bne_eq_false_iff_eq.mpr c10
     clear c10
     have H' := Aside0.mk H
     clear H
     go_wp2
     go_meet
     case rel => exact ⟨_, ((a0_0 == 3)), (by first | rfl | (simp; done) | (simp [*]; done)), H', ⟨by first | omega | exact Nat.le_refl _⟩, ⟨kr_ HO306⟩, ⟨bk_ BK303⟩, ⟨bl1_ HB GE303⟩⟩
    ·rw [if_neg c10] at H
     have c10b0 : (a0_0 == 3) = false := beq_eq_false_iff_ne.mpr c10
     have c10b1 : (a0_0 != 3) = true := bne_iff_ne.mpr c10
     have H' := Aside0.mk H
     clear H
     go_wp2
     go_meet
     case rel => exact ⟨_, ((a0_0 == 4)), (by first | rfl | (simp; done) | (simp [*]; done)), H', ⟨by first | omega | exact Nat.le_refl _⟩, ⟨kr_ HO306⟩, ⟨bk_ BK303⟩, ⟨bl1_ HB GE303⟩⟩
 case rest =>
  clear HC2
  try clear c1
  try clear p2
  try clear c5
  try clear c8
  try clear c8b0
  try clear c8b1
  try clear c9
  try clear c9b0
  try clear c9b1
  try clear c10
  try clear c10b0
  try clear c10b1
  try clear hcz4_0 hcz4_1 hcz4_2 hcz4_3 hcz4_4 hcz4_5 hcz4_6
  try clear hcz7_0 hcz7_1 hcz7_2 hcz7_3 hcz7_4 hcz7_5 hcz7_6
  try clear hfz4_0 hfz4_1 hfz4_2 hfz4_3 hfz4_4 hfz4_5 hfz4_6
  try clear hfz7_0 hfz7_1 hfz7_2 hfz7_3 hfz7_4 hfz7_5 hfz7_6
  obtain ⟨kq, x10_1, rfl, HA, HJ1, HO_3, BK303, HB⟩ := hcut
  cases kq with
  | zero => exact absurd HA.out (by simp [basculeref03_Bytes.j0])
  | succ kj1 =>
   have H := HA.out
   clear HA
   simp only [basculeref03_Bytes.j0] at H
   by_cases c11 : x10_1 = true
   ·subst c11
    have H1 : ((basculeref03_lay.f kj1 (([a0_1, a0_2] : List Int))).bind fun t310 => (if y304.length + t310.length < 140737488355328 then (some (y304 ++ t310)) else (none))) = some r := by rw [if_pos rfl] at H; exact H
    clear H
    have H := H1
    clear H1
    obtain ⟨y307, hy307⟩ : ∃ y_ : List Int, y_ = (([a0_1, a0_2] : List Int)) := ⟨_, rfl⟩
    replace H : ((basculeref03_lay.f kj1 y307).bind fun t310 => (if y304.length + t310.length < 140737488355328 then (some (y304 ++ t310)) else (none))) = some r := by first | (rw [hy307]; with_reducible exact H) | (have H2_ := (Option.bind_some _ _).symm.trans H; rw [hy307]; with_reducible exact H2_) | (have H2_ := (Option.bind_some _ _).symm.trans H; with_reducible exact H2_) | with_reducible exact H | (rw [hy307]; exact H) | exact H
    have Ny307 := Aside0.mk hy307
    clear hy307
    replace H := Option.bind_eq_some_iff.mp H
    obtain ⟨t310, A120, H⟩ := H
    replace H : (if y304.length + t310.length < 140737488355328 then (some (y304 ++ t310)) else (none)) = some r := H
    have A12 := Aside0.mk A120
    clear A120
    by_cases c13 : y304.length + t310.length < 140737488355328
    ·rw [if_pos c13] at H
     have LMc13 := Aside0.mk c13
     clear c13
     obtain ⟨y313, hy313⟩ : ∃ y_ : List Int, y_ = (y304 ++ t310) := ⟨_, rfl⟩
     replace H : (some y313) = some r := by first | (rw [hy313]; with_reducible exact H) | (have H2_ := (Option.bind_some _ _).symm.trans H; rw [hy313]; with_reducible exact H2_) | (have H2_ := (Option.bind_some _ _).symm.trans H; with_reducible exact H2_) | with_reducible exact H | (rw [hy313]; exact H) | exact H
     have Ny313 := Aside0.mk hy313
     clear hy313
     obtain rfl := Option.some.inj H
     refine cz7_ BK303.out ?_; intro hcz14_0 hcz14_1 hcz14_2 hcz14_3 hcz14_4 hcz14_5 hcz14_6 hfz14_0 hfz14_1 hfz14_2 hfz14_3 hfz14_4 hfz14_5 hfz14_6
     go_wp2_with (first | ((with_reducible refine gate_dst (N := 20) rfl ?_); refine Kd.R_lit (Kd.int .i64) _ 3 ?hg (N := 20) ?hd (xs := ([a0_1, a0_2] : List Int)) (inner := [.int .i64 a0_1, .int .i64 a0_2]) (ok := fun _ => True) (okp := fun _ => True) ?hr ?hp (fun _ hk => hk) trivial (Below.refl _ _) (Nat.le_refl _) (by simp) ?_; (case hd => rfl); (case hg => rfl); (case hr => first | (go_simp; done) | (go_simp; rfl)); (case hp => exact (Reps.one (show Kd.M (Kd.int .i64) _ _ _ a0_1 [.int .i64 a0_1] from rfl) (Reps.one (show Kd.M (Kd.int .i64) _ _ _ a0_2 [.int .i64 a0_2] from rfl) (Reps.none _ _)))); intro v308 w15 ho16 hb hg_ hnew_; clear hg_ hnew_; (first | rw [← Ny307.out] at ho16 | (simp only [Int.reduceToNat] at ho16; rw [← Ny307.out] at ho16)); have n0_ := Aside0.mk (Kd.R_below (kr_ HO_3) hb); have n1_ := Aside0.mk (Kd.R_lower ho16 (below_size (bl1_ HB GE303))); have n2_ := Aside0.mk (blk_below (g := gb303) (bk_ BK303) hb); have n3_ := Aside0.mk (below_step (bl1_ HB GE303) hb); clear HO_3; clear BK303; clear HB; have HO_3 := n0_; have HO309 := n1_; have BK303 := n2_; have HB := n3_; clear n0_ n1_ n2_ n3_; clear hb ho16; obtain ⟨Ao17, co17, eo17⟩ := Kd.R_slice HO309.out; subst eo17) | ((with_reducible refine gate_callee (f := 54) rfl ?_); refine goesL_ (some 21) rfl rfl Try.func54 (by kernel_rfl) rfl #[.slice Ao17 y307.length co17] rfl ar_ ?_; (with_reducible refine (basculeref03_lay.calls kj1 _ _ y307 t310 _ ?side1 ?side2 A12.out).mono ?_); (case side1 => exact sc_ (Kd.R_reads' HO309.out).2.2); (case side2 => exact (Kd.R_reads' HO309.out).2.1); rintro e w18 ⟨v311, rfl, ho0, hb⟩; refine ⟨_, rfl, ?_⟩; have n0_ := Aside0.mk (Kd.R_elder' (kr_ HO_3) (Kd.R_base ho0) hb); have n1_ := Aside0.mk (Kd.R_below (kr_ HO309) hb); have n2_ := Aside0.mk (Kd.R_lower (Kd.R_new' ho0 (Kd.R_lt (kr_ HO_3))) (below_size (bl1_ HB GE303))); have n3_ := Aside0.mk (blk_below (g := gb303) (bk_ BK303) hb); have n4_ := Aside0.mk (below_step (bl1_ HB GE303) hb); clear HO_3; clear HO309; clear BK303; clear HB; have HO_3 := n0_; have HO309 := n1_; have HO312 := n2_; have BK303 := n3_; have HB := n4_; clear n0_ n1_ n2_ n3_ n4_; (try clear hb); (try clear hb2); (try clear hk); (try clear hi); (try clear ho0); obtain ⟨Ao20, co20, eo20⟩ := Kd.R_slice HO312.out; subst eo20) | ((with_reducible refine gate_builtin (b := .append) (xs := #[.tmp 15, .tmp 21]) rfl ?_); at_builtin; refine Kd.R_append_rows (Kd.int .u8) (w0 := w) w.heap.size rfl (.tmp 15) (.tmp 21) 43 5 (.int .u8 0) 1 rfl Try.underlying43 info5 rfl (by decide) (by omega) v305 y304 t310 _ _ _ (fun k_ => some k_ ≠ (.slice Ao20 t310.length co20 : Value).ownBlock) (fun _ => False) rfl rfl ?aO ?aR (fun _ _ h => h) (fun _ h => h.elim) ?aF ?aB ?aS ?aL ?_; (case aR => exact sc_ (Kd.R_reads' HO312.out).2.2); (case aB => exact (bl1_ HB GE303)); (case aF => exact (fun k_ hk => Kd.fresh' (Kd.R_lt (kr_ HO312)) k_ hk)); (case aO => exact (by (with_reducible repeat (first | apply Kd.R_alloc | apply Kd.R_drewN | apply Kd.R_drew)); exact Kd.R_mono HO_3.out (fun _ hk => hk.2))); (case aS => exact (below_size (bl1_ HB GE303))); (case aL => have := LMc13.out; omega); intro v314 w19 ho hb hg hat; rw [← Ny313.out] at ho; have n0_ := Aside0.mk (blk_grown (g := gb303) (bk_ BK303) hg (Kd.R_ne HO_3.out BK303.out (by decide))); have n1_ := Aside0.mk (Kd.R_over' (kr_ HO309) (Kd.R_typed (kr_ HO_3)) (by decide) hg); have n2_ := Aside0.mk (Kd.R_after (ok := (fun _ => True)) (kr_ HO312) hg hat); have n3_ := Aside0.mk (hb); have n4_ := Aside0.mk (ho); clear BK303; clear HO309; clear HO312; clear HB; clear HO_3; have BK303 := n0_; have HO309 := n1_; have HO312 := n2_; have HB := n3_; have HO315 := n4_; clear n0_ n1_ n2_ n3_ n4_; clear ho hb hg hat))
     go_ret
     exact ⟨_, er_, by (with_reducible repeat (first | apply Kd.R_alloc | apply Kd.R_drewN | apply Kd.R_drew)); exact Kd.R_mono HO315.out (fun _ hk => trivial), bl1_ HB GE303⟩
    ·rw [if_neg c13] at H
     exact absurd H (by simp)
   ·replace c11 := Bool.eq_false_iff.mpr c11
    subst c11
    have H1 : (if a0_0 = 5 then (if 0 < (l0_3.length : Int) then ((basculeref03_lay.f kj1 (([a0_1, wrap64 (65280 * (rd l0_3 0))] : List Int))).bind fun t320 => (if y304.length + t320.length < 140737488355328 then (some (y304 ++ t320)) else (none))) else (none)) else (if a0_0 = 6 then (if 0 < (l0_3.length : Int) then ((basculeref03_lay.f kj1 (([a0_1, rd l0_3 0] : List Int))).bind fun t330 => (if y304.length + t330.length < 140737488355328 then (some (y304 ++ t330)) else (none))) else (none)) else (if a0_0 = 15 then ((basculeref03_lay.f kj1 (([a0_1, a0_2] : List Int))).bind fun t339 => (if y304.length + t339.length < 140737488355328 then ((some (y304 ++ t339 : List Int)).bind fun y342 => ((basculeref01_Pack.f kj1 l0_3).bind fun t345 => ((basculeref03_counted.f t345).bind fun t348 => (if y342.length + t348.length < 140737488355328 then (some (y342 ++ t348)) else (none))))) else (none))) else (if a0_0 = 16 then ((basculeref03_lay.f kj1 (([a0_1, a0_2] : List Int))).bind fun t357 => (if y304.length + t357.length < 140737488355328 then ((some (y304 ++ t357 : List Int)).bind fun y360 => ((basculeref03_lay.f kj1 l0_3).bind fun t363 => ((basculeref03_counted.f t363).bind fun t366 => (if y360.length + t366.length < 140737488355328 then (some (y360 ++ t366)) else (none))))) else (none))) else (if a0_0 = 22 then ((basculeref03_lay.f kj1 (([a0_1, a0_5, a0_6] : List Int))).bind fun t375 => (if y304.length + t375.length < 140737488355328 then (some (y304 ++ t375)) else (none))) else ((basculeref03_lay.f kj1 (([a0_1, a0_2, a0_4, (l0_3.length : Int)] : List Int))).bind fun t384 => (if y304.length + t384.length < 140737488355328 then ((some (y304 ++ t384 : List Int)).bind fun y387 => ((basculeref03_lay.f kj1 l0_3).bind fun t390 => ((basculeref03_counted.f t390).bind fun t393 => (if y387.length + t393.length < 140737488355328 then (some (y387 ++ t393)) else (none))))) else (none)))))))) = some r := by rw [if_neg (show ¬ (false = true) by decide)] at H; exact H
    clear H
    have H := H1
    clear H1
    by_cases c21 : a0_0 = 5
    ·rw [if_pos c21] at H
     have c21b0 : (a0_0 == 5) = true := beq_iff_eq.mpr c21
     have c21b1 : (a0_0 != 5) = false := bne_eq_false_iff_eq.mpr c21
     clear c21
     by_cases c22 : 0 < (l0_3.length : Int)
     ·rw [if_pos c22] at H
      have c22b0 : decide (0 < (l0_3.length : Int)) = true := decide_eq_true c22
      have c22b1 : decide (0 < l0_3.length) = true := decide_eq_true (by omega)
      clear c22
      obtain ⟨y317, hy317⟩ : ∃ y_ : List Int, y_ = (([a0_1, wrap64 (65280 * (rd l0_3 0))] : List Int)) := ⟨_, rfl⟩
      replace H : ((basculeref03_lay.f kj1 y317).bind fun t320 => (if y304.length + t320.length < 140737488355328 then (some (y304 ++ t320)) else (none))) = some r := by first | (rw [hy317]; with_reducible exact H) | (have H2_ := (Option.bind_some _ _).symm.trans H; rw [hy317]; with_reducible exact H2_) | (have H2_ := (Option.bind_some _ _).symm.trans H; with_reducible exact H2_) | with_reducible exact H | (rw [hy317]; exact H) | exact H
      have Ny317 := Aside0.mk hy317
      clear hy317
      replace H := Option.bind_eq_some_iff.mp H
      obtain ⟨t320, A230, H⟩ := H
      replace H : (if y304.length + t320.length < 140737488355328 then (some (y304 ++ t320)) else (none)) = some r := H
      have A23 := Aside0.mk A230
      clear A230
      by_cases c24 : y304.length + t320.length < 140737488355328
      ·rw [if_pos c24] at H
       have LMc24 := Aside0.mk c24
       clear c24
       obtain ⟨y323, hy323⟩ : ∃ y_ : List Int, y_ = (y304 ++ t320) := ⟨_, rfl⟩
       replace H : (some y323) = some r := by first | (rw [hy323]; with_reducible exact H) | (have H2_ := (Option.bind_some _ _).symm.trans H; rw [hy323]; with_reducible exact H2_) | (have H2_ := (Option.bind_some _ _).symm.trans H; with_reducible exact H2_) | with_reducible exact H | (rw [hy323]; exact H) | exact H
       have Ny323 := Aside0.mk hy323
       clear hy323
       obtain rfl := Option.some.inj H
       try go_wp2
       have n0_ := Aside0.mk (Kd.R_drew HO_3.out)
       have n1_ := Aside0.mk (blk_drew BK303.out)
       have n2_ := Aside0.mk (below_drew1 HB.out)
       clear HO_3
       clear BK303
       clear HB
       have HO_3 := n0_
       have BK303 := n1_
       have HB := n2_
       clear n0_ n1_ n2_
       have p316 : 0 ≤ (0 : Int) := (by omega)
       have q316 : 0 < (l0_3.length : Int) := of_decide_eq_true (by first | (with_reducible assumption) | assumption)
       obtain ⟨ad316, e316, hx316_0⟩ := Kd.at_int HR0_3.out 0 p316 q316
       have hw316_0 := hx316_0
       (try rw [show ((0 : Int)).toNat = 0 from rfl] at hw316_0)
       (try rw [show 0 * 1 = 0 from rfl] at hw316_0)
       (try rw [Addr.add_zero'] at hw316_0)
       cases e316
       have qi316 : (0 < l0_3.length) = True := eq_true (by omega)
       (try rw [show ((0 : Int)).toNat = 0 from rfl] at hx316_0)
       (try rw [Addr.add_zero'] at hx316_0)
       replace hx316_0 := (HB.out.cell (World.block_lt_of_cell? w _ hx316_0)).trans hx316_0
       replace p316 := eq_true p316
       replace q316 := eq_true q316
       refine start_ (n := 12) (S := fun w' => w'.cell? ⟨gb303, 0, none⟩ = some (.int .i64 a0_0) ∧ w'.cell? ⟨gb303, 1, none⟩ = some (.int .i64 a0_1) ∧ w'.cell? ⟨gb303, 2, none⟩ = some (.int .i64 a0_2) ∧ w'.cell? ⟨gb303, 3, none⟩ = some (.slice (some ad316) l0_3.length c0_3) ∧ w'.cell? ⟨gb303, 4, none⟩ = some (.int .i64 a0_4) ∧ w'.cell? ⟨gb303, 5, none⟩ = some (.int .i64 a0_5) ∧ w'.cell? ⟨gb303, 6, none⟩ = some (.int .i64 a0_6) ∧ w'.cell? ad316 = some (.int .i64 (rd l0_3 0))) (ds := []) #[false, false, false, false, false, false, false, false, false, false, false, false] (by kernel_rfl) rfl rfl ⟨(blk_cell BK303.out 0).trans rfl, (blk_cell BK303.out 1).trans rfl, (blk_cell BK303.out 2).trans rfl, (blk_cell BK303.out 3).trans rfl, (blk_cell BK303.out 4).trans rfl, (blk_cell BK303.out 5).trans rfl, (blk_cell BK303.out 6).trans rfl, ((HB.out.cell (World.block_lt_of_cell? w _ hw316_0)).trans hw316_0)⟩ (fun hHeld => ?_); refine with_tabW basculeref03_Bytes.tab10 basculeref03_Bytes.bits10 (fun HT_ HW_ => ?_)
       generalize wc.drew = w25 at HO_3 BK303 HB hx316_0 hHeld ⊢
       refine pure_ (i := 0) (N := some 26) (v := ?_) (a' := ?_) #[true, false, false, false, false, false, false, false, false, false, false, false] rfl rfl (any_of HT_.out (by kernel_rfl)) (fun _ _ _ h => h) (Or.inl ⟨by rfl, ?_⟩) ?_ ?_
       rotate_left
       ·intro w'
        go_simp
        with_reducible rfl
       rotate_left
       ·simp only [Act.put, List.setIfInBounds_toArray, List.set_cons_zero, List.set_cons_succ, i64_w, i32_w]
        rfl
       refine pure_ (i := 1) (N := some 27) (v := ?_) (a' := ?_) #[true, true, false, false, false, false, false, false, false, false, false, false] rfl rfl (any_of HT_.out (by kernel_rfl)) (fun _ _ _ h => h) (Or.inl ⟨by rfl, ?_⟩) ?_ ?_
       rotate_left
       ·intro w'
        go_simp
        with_reducible rfl
       rotate_left
       ·simp only [Act.put, List.setIfInBounds_toArray, List.set_cons_zero, List.set_cons_succ, i64_w, i32_w]
        rfl
       refine pure_ (i := 3) (N := some 29) (v := ?_) (a' := ?_) #[true, true, false, true, false, false, false, false, false, false, false, false] rfl rfl (any_of HT_.out (by kernel_rfl)) (fun _ _ _ h => h) (Or.inl ⟨by rfl, ?_⟩) ?_ ?_
       rotate_left
       ·intro w'
        go_simp
        with_reducible rfl
       rotate_left
       ·simp only [Act.put, List.setIfInBounds_toArray, List.set_cons_zero, List.set_cons_succ, i64_w, i32_w]
        rfl
       refine take_ (i := 2) (N := some 28) (v := ?_) (a' := ?_) #[true, true, true, true, false, false, false, false, false, false, false, false] rfl rfl (take_ofW HT_.out HW_.out (by kernel_rfl)) (fun _ _ _ h => h) (Or.inl ⟨by rfl, ?_⟩) hHeld ?_ ?_
       rotate_left
       ·rintro w' ⟨s0, s1, s2, s3, s4, s5, s6, s7⟩
        go_simp
        with_reducible rfl
       rotate_left
       ·simp only [Act.put, List.setIfInBounds_toArray, List.set_cons_zero, List.set_cons_succ, i64_w, i32_w]
        rfl
       refine take_ (i := 4) (N := some 30) (v := ?_) (a' := ?_) #[true, true, true, true, true, false, false, false, false, false, false, false] rfl rfl (take_ofW HT_.out HW_.out (by kernel_rfl)) (fun _ _ _ h => h) (Or.inl ⟨by rfl, ?_⟩) hHeld ?_ ?_
       rotate_left
       ·rintro w' ⟨s0, s1, s2, s3, s4, s5, s6, s7⟩
        go_simp
        with_reducible rfl
       rotate_left
       ·simp only [Act.put, List.setIfInBounds_toArray, List.set_cons_zero, List.set_cons_succ, i64_w, i32_w]
        rfl
       refine pure_ (i := 5) (N := some 31) (v := ?_) (a' := ?_) #[true, true, true, true, true, true, false, false, false, false, false, false] rfl rfl (any_of HT_.out (by kernel_rfl)) (fun _ _ _ h => h) (Or.inl ⟨by rfl, ?_⟩) ?_ ?_
       rotate_left
       ·intro w'
        go_simp
        with_reducible rfl
       rotate_left
       ·simp only [Act.put, List.setIfInBounds_toArray, List.set_cons_zero, List.set_cons_succ, i64_w, i32_w]
        rfl
       refine take_ (i := 6) (N := some 32) (v := ?_) (a' := ?_) #[true, true, true, true, true, true, true, false, false, false, false, false] rfl rfl (take_ofW HT_.out HW_.out (by kernel_rfl)) (fun _ _ _ h => h) (Or.inl ⟨by rfl, ?_⟩) hHeld ?_ ?_
       rotate_left
       ·rintro w' ⟨s0, s1, s2, s3, s4, s5, s6, s7⟩
        go_simp
        with_reducible rfl
       rotate_left
       ·simp only [Act.put, List.setIfInBounds_toArray, List.set_cons_zero, List.set_cons_succ, i64_w, i32_w]
        rfl
       refine pure_ (i := 7) (N := some 33) (v := ?_) (a' := ?_) #[true, true, true, true, true, true, true, true, false, false, false, false] rfl rfl (any_of HT_.out (by kernel_rfl)) (fun _ _ _ h => h) (Or.inl ⟨by rfl, ?_⟩) ?_ ?_
       rotate_left
       ·intro w'
        go_simp
        with_reducible rfl
       rotate_left
       ·simp only [Act.put, List.setIfInBounds_toArray, List.set_cons_zero, List.set_cons_succ, i64_w, i32_w]
        rfl
       refine one_ (i := 8) (N := some 34) #[true, true, true, true, true, true, true, true, true, false, false, false] rfl rfl (one_of HT_.out (by kernel_rfl)) (by decide) (fun K hK => ?_)
       refine Kd.R_lit_step (Kd.int .i64) _ 3 ?hg (N := 34) ?hd (xs := ([a0_1, wrap64 (65280 * (rd l0_3 0))] : List Int)) (inner := [.int .i64 a0_1, .int .i64 (wrap64 (65280 * (rd l0_3 0)))]) (ok := fun _ => True) (okp := fun _ => True) ?hr ?hp (fun _ hk => hk) trivial (Below.refl _ _) (Nat.le_refl _) (by simp) ?_; (case hd => rfl); (case hg => rfl); (case hr => first | (go_simp; done) | (go_simp; rfl)); (case hp => exact (Reps.one (show Kd.M (Kd.int .i64) _ _ _ a0_1 [.int .i64 a0_1] from rfl) (Reps.one (show Kd.M (Kd.int .i64) _ _ _ (wrap64 (65280 * (rd l0_3 0))) [.int .i64 (wrap64 (65280 * (rd l0_3 0)))] from rfl) (Reps.none _ _))))
       intro v318 w26 ho27 hb hg_ hnew_
       clear hg_ hnew_
       (first | rw [← Ny317.out] at ho27 | (simp only [Int.reduceToNat] at ho27; rw [← Ny317.out] at ho27))
       have n0_ := Aside0.mk (Kd.R_below (kr_ HO_3) hb)
       have n1_ := Aside0.mk (Kd.R_lower ho27 (below_size (bl1_ HB GE303)))
       have n2_ := Aside0.mk (blk_below (g := gb303) (bk_ BK303) hb)
       have n3_ := Aside0.mk (below_step (bl1_ HB GE303) hb)
       clear HO_3
       clear BK303
       clear HB
       have HO_3 := n0_
       have HO319 := n1_
       have BK303 := n2_
       have HB := n3_
       clear n0_ n1_ n2_ n3_
       clear hb ho27
       obtain ⟨Ao28, co28, eo28⟩ := Kd.R_slice HO319.out
       (first | subst eo28 | (injection eo28 with f1_ f2_ f3_; have f4_ := f1_.symm; have f5_ := f3_.symm; clear f1_ f2_ f3_; subst f4_; subst f5_))
       refine hK.out _ _ ⟨(blk_cell BK303.out 0).trans rfl, (blk_cell BK303.out 1).trans rfl, (blk_cell BK303.out 2).trans rfl, (blk_cell BK303.out 3).trans rfl, (blk_cell BK303.out 4).trans rfl, (blk_cell BK303.out 5).trans rfl, (blk_cell BK303.out 6).trans rfl, ((HB.out.cell (World.block_lt_of_cell? w _ hw316_0)).trans hw316_0)⟩ (fun hHeld => ?_)
       clear hK K
       refine norm_ (a' := ?_) ?_ ?_
       rotate_left
       ·show Act.put _ (some 34) _ = _
        simp only [Act.put, List.setIfInBounds_toArray, List.set_cons_zero, List.set_cons_succ, i64_w, i32_w]
        rfl
       refine one_ (i := 9) (N := some 35) #[true, true, true, true, true, true, true, true, true, true, false, false] rfl rfl (one_of HT_.out (by kernel_rfl)) (by decide) (fun K hK => ?_)
       refine goes_ Try.func54 (by kernel_rfl) rfl #[.slice Ao28 y317.length co28] (by rfl) rfl rfl ar_ ?_
       with_reducible refine (basculeref03_lay.calls kj1 _ _ y317 t320 _ ?side1 ?side2 A23.out).mono ?_
       (case side1 => exact sc_ (Kd.R_reads' HO319.out).2.2)
       (case side2 => exact (Kd.R_reads' HO319.out).2.1)
       rintro e w29 ⟨v321, rfl, ho0, hb⟩
       refine ⟨_, rfl, ?_⟩
       have n0_ := Aside0.mk (Kd.R_elder' (kr_ HO_3) (Kd.R_base ho0) hb)
       have n1_ := Aside0.mk (Kd.R_below (kr_ HO319) hb)
       have n2_ := Aside0.mk (Kd.R_lower (Kd.R_new' ho0 (Kd.R_lt (kr_ HO_3))) (below_size (bl1_ HB GE303)))
       have n3_ := Aside0.mk (blk_below (g := gb303) (bk_ BK303) hb)
       have n4_ := Aside0.mk (below_step (bl1_ HB GE303) hb)
       clear HO_3
       clear HO319
       clear BK303
       clear HB
       have HO_3 := n0_
       have HO319 := n1_
       have HO322 := n2_
       have BK303 := n3_
       have HB := n4_
       clear n0_ n1_ n2_ n3_ n4_
       (try clear hb)
       (try clear hb2)
       (try clear hk)
       (try clear hi)
       (try clear ho0)
       obtain ⟨Ao31, co31, eo31⟩ := Kd.R_slice HO322.out
       (first | subst eo31 | (injection eo31 with f1_ f2_ f3_; have f4_ := f1_.symm; have f5_ := f3_.symm; clear f1_ f2_ f3_; subst f4_; subst f5_))
       refine hK.out _ _ ⟨(blk_cell BK303.out 0).trans rfl, (blk_cell BK303.out 1).trans rfl, (blk_cell BK303.out 2).trans rfl, (blk_cell BK303.out 3).trans rfl, (blk_cell BK303.out 4).trans rfl, (blk_cell BK303.out 5).trans rfl, (blk_cell BK303.out 6).trans rfl, ((HB.out.cell (World.block_lt_of_cell? w _ hw316_0)).trans hw316_0)⟩ (fun hHeld => ?_)
       clear hK K
       refine norm_ (a' := ?_) ?_ ?_
       rotate_left
       ·show Act.put _ (some 35) _ = _
        simp only [Act.put, List.setIfInBounds_toArray, List.set_cons_zero, List.set_cons_succ, i64_w, i32_w]
        rfl
       refine one_ (i := 10) (N := some 36) #[true, true, true, true, true, true, true, true, true, true, true, false] rfl rfl (one_of HT_.out (by kernel_rfl)) (by decide) (fun K hK => ?_)
       refine Kd.R_append_rows_step (Kd.int .u8) (w0 := w) w.heap.size (by rfl) (.tmp 26) (.tmp 35) 43 5 (.int .u8 0) 1 rfl Try.underlying43 info5 rfl (by decide) (by omega) v305 y304 t320 _ _ _ (fun k_ => some k_ ≠ (.slice Ao31 t320.length co31 : Value).ownBlock) (fun _ => False) rfl rfl ?aO ?aR (fun _ _ h => h) (fun _ h => h.elim) ?aF ?aB ?aS ?aL ?_
       (case aR => exact sc_ (Kd.R_reads' HO322.out).2.2)
       (case aB => exact (bl1_ HB GE303))
       (case aF => exact (fun k_ hk => Kd.fresh' (Kd.R_lt (kr_ HO322)) k_ hk))
       (case aO => exact (by (with_reducible repeat (first | apply Kd.R_alloc | apply Kd.R_drewN | apply Kd.R_drew)); exact Kd.R_mono HO_3.out (fun _ hk => hk.2)))
       (case aS => exact (below_size (bl1_ HB GE303)))
       (case aL => have := LMc24.out; omega)
       intro v324 w30 ho hb hg hat
       rw [← Ny323.out] at ho
       have n0_ := Aside0.mk (blk_grown (g := gb303) (bk_ BK303) hg (Kd.R_ne HO_3.out BK303.out (by decide)))
       have n1_ := Aside0.mk (Kd.R_over' (kr_ HO319) (Kd.R_typed (kr_ HO_3)) (by decide) hg)
       have n2_ := Aside0.mk (Kd.R_after (ok := (fun _ => True)) (kr_ HO322) hg hat)
       have n3_ := Aside0.mk (hb)
       have n4_ := Aside0.mk (ho)
       clear BK303
       clear HO319
       clear HO322
       clear HB
       clear HO_3
       have BK303 := n0_
       have HO319 := n1_
       have HO322 := n2_
       have HB := n3_
       have HO325 := n4_
       clear n0_ n1_ n2_ n3_ n4_
       clear ho hb hg hat
       refine hK.out _ _ ⟨(blk_cell BK303.out 0).trans rfl, (blk_cell BK303.out 1).trans rfl, (blk_cell BK303.out 2).trans rfl, (blk_cell BK303.out 3).trans rfl, (blk_cell BK303.out 4).trans rfl, (blk_cell BK303.out 5).trans rfl, (blk_cell BK303.out 6).trans rfl, ((HB.out.cell (World.block_lt_of_cell? w _ hw316_0)).trans hw316_0)⟩ (fun hHeld => ?_)
       clear hK K
       refine norm_ (a' := ?_) ?_ ?_
       rotate_left
       ·show Act.put _ (some 36) _ = _
        simp only [Act.put, List.setIfInBounds_toArray, List.set_cons_zero, List.set_cons_succ, i64_w, i32_w]
        rfl
       refine pure_ (i := 11) (N := some 3) (v := ?_) (a' := ?_) #[true, true, true, true, true, true, true, true, true, true, true, true] rfl rfl (any_of HT_.out (by kernel_rfl)) (fun _ _ _ h => h) (Or.inl ⟨by rfl, ?_⟩) ?_ ?_
       rotate_left
       ·intro w'
        go_simp
        with_reducible rfl
       rotate_left
       ·simp only [Act.put, List.setIfInBounds_toArray, List.set_cons_zero, List.set_cons_succ, i64_w, i32_w]
        rfl
       refine done_ (done_of HT_.out (by kernel_rfl)) ?_
       try go_wp2
       go_ret
       exact ⟨_, er_, by (with_reducible repeat (first | apply Kd.R_alloc | apply Kd.R_drewN | apply Kd.R_drew)); exact Kd.R_mono HO325.out (fun _ hk => trivial), bl1_ HB GE303⟩
      ·rw [if_neg c24] at H
       exact absurd H (by simp)
     ·rw [if_neg c22] at H
      exact absurd H (by simp)
    ·rw [if_neg c21] at H
     have c21b0 : (a0_0 == 5) = false := beq_eq_false_iff_ne.mpr c21
     have c21b1 : (a0_0 != 5) = true := bne_iff_ne.mpr c21
     by_cases c32 : a0_0 = 6
     ·rw [if_pos c32] at H
      have c32b0 : (a0_0 == 6) = true := beq_iff_eq.mpr c32
      have c32b1 : (a0_0 != 6) = false := bne_eq_false_iff_eq.mpr c32
      clear c32
      by_cases c33 : 0 < (l0_3.length : Int)
      ·rw [if_pos c33] at H
       have c33b0 : decide (0 < (l0_3.length : Int)) = true := decide_eq_true c33
       have c33b1 : decide (0 < l0_3.length) = true := decide_eq_true (by omega)
       clear c33
       obtain ⟨y327, hy327⟩ : ∃ y_ : List Int, y_ = (([a0_1, rd l0_3 0] : List Int)) := ⟨_, rfl⟩
       replace H : ((basculeref03_lay.f kj1 y327).bind fun t330 => (if y304.length + t330.length < 140737488355328 then (some (y304 ++ t330)) else (none))) = some r := by first | (rw [hy327]; with_reducible exact H) | (have H2_ := (Option.bind_some _ _).symm.trans H; rw [hy327]; with_reducible exact H2_) | (have H2_ := (Option.bind_some _ _).symm.trans H; with_reducible exact H2_) | with_reducible exact H | (rw [hy327]; exact H) | exact H
       have Ny327 := Aside0.mk hy327
       clear hy327
       replace H := Option.bind_eq_some_iff.mp H
       obtain ⟨t330, A340, H⟩ := H
       replace H : (if y304.length + t330.length < 140737488355328 then (some (y304 ++ t330)) else (none)) = some r := H
       have A34 := Aside0.mk A340
       clear A340
       by_cases c35 : y304.length + t330.length < 140737488355328
       ·rw [if_pos c35] at H
        have LMc35 := Aside0.mk c35
        clear c35
        obtain ⟨y333, hy333⟩ : ∃ y_ : List Int, y_ = (y304 ++ t330) := ⟨_, rfl⟩
        replace H : (some y333) = some r := by first | (rw [hy333]; with_reducible exact H) | (have H2_ := (Option.bind_some _ _).symm.trans H; rw [hy333]; with_reducible exact H2_) | (have H2_ := (Option.bind_some _ _).symm.trans H; with_reducible exact H2_) | with_reducible exact H | (rw [hy333]; exact H) | exact H
        have Ny333 := Aside0.mk hy333
        clear hy333
        obtain rfl := Option.some.inj H
        try go_wp2
        have n0_ := Aside0.mk (Kd.R_drew HO_3.out)
        have n1_ := Aside0.mk (blk_drew BK303.out)
        have n2_ := Aside0.mk (below_drew1 HB.out)
        clear HO_3
        clear BK303
        clear HB
        have HO_3 := n0_
        have BK303 := n1_
        have HB := n2_
        clear n0_ n1_ n2_
        have p326 : 0 ≤ (0 : Int) := (by omega)
        have q326 : 0 < (l0_3.length : Int) := of_decide_eq_true (by first | (with_reducible assumption) | assumption)
        obtain ⟨ad326, e326, hx326_0⟩ := Kd.at_int HR0_3.out 0 p326 q326
        have hw326_0 := hx326_0
        (try rw [show ((0 : Int)).toNat = 0 from rfl] at hw326_0)
        (try rw [show 0 * 1 = 0 from rfl] at hw326_0)
        (try rw [Addr.add_zero'] at hw326_0)
        cases e326
        have qi326 : (0 < l0_3.length) = True := eq_true (by omega)
        (try rw [show ((0 : Int)).toNat = 0 from rfl] at hx326_0)
        (try rw [Addr.add_zero'] at hx326_0)
        replace hx326_0 := (HB.out.cell (World.block_lt_of_cell? w _ hx326_0)).trans hx326_0
        replace p326 := eq_true p326
        replace q326 := eq_true q326
        refine start_ (n := 11) (S := fun w' => w'.cell? ⟨gb303, 0, none⟩ = some (.int .i64 a0_0) ∧ w'.cell? ⟨gb303, 1, none⟩ = some (.int .i64 a0_1) ∧ w'.cell? ⟨gb303, 2, none⟩ = some (.int .i64 a0_2) ∧ w'.cell? ⟨gb303, 3, none⟩ = some (.slice (some ad326) l0_3.length c0_3) ∧ w'.cell? ⟨gb303, 4, none⟩ = some (.int .i64 a0_4) ∧ w'.cell? ⟨gb303, 5, none⟩ = some (.int .i64 a0_5) ∧ w'.cell? ⟨gb303, 6, none⟩ = some (.int .i64 a0_6) ∧ w'.cell? ad326 = some (.int .i64 (rd l0_3 0))) (ds := []) #[false, false, false, false, false, false, false, false, false, false, false] (by kernel_rfl) rfl rfl ⟨(blk_cell BK303.out 0).trans rfl, (blk_cell BK303.out 1).trans rfl, (blk_cell BK303.out 2).trans rfl, (blk_cell BK303.out 3).trans rfl, (blk_cell BK303.out 4).trans rfl, (blk_cell BK303.out 5).trans rfl, (blk_cell BK303.out 6).trans rfl, ((HB.out.cell (World.block_lt_of_cell? w _ hw326_0)).trans hw326_0)⟩ (fun hHeld => ?_); refine with_tabW basculeref03_Bytes.tab13 basculeref03_Bytes.bits13 (fun HT_ HW_ => ?_)
        generalize wc.drew = w36 at HO_3 BK303 HB hx326_0 hHeld ⊢
        refine pure_ (i := 0) (N := some 40) (v := ?_) (a' := ?_) #[true, false, false, false, false, false, false, false, false, false, false] rfl rfl (any_of HT_.out (by kernel_rfl)) (fun _ _ _ h => h) (Or.inl ⟨by rfl, ?_⟩) ?_ ?_
        rotate_left
        ·intro w'
         go_simp
         with_reducible rfl
        rotate_left
        ·simp only [Act.put, List.setIfInBounds_toArray, List.set_cons_zero, List.set_cons_succ, i64_w, i32_w]
         rfl
        refine pure_ (i := 1) (N := some 41) (v := ?_) (a' := ?_) #[true, true, false, false, false, false, false, false, false, false, false] rfl rfl (any_of HT_.out (by kernel_rfl)) (fun _ _ _ h => h) (Or.inl ⟨by rfl, ?_⟩) ?_ ?_
        rotate_left
        ·intro w'
         go_simp
         with_reducible rfl
        rotate_left
        ·simp only [Act.put, List.setIfInBounds_toArray, List.set_cons_zero, List.set_cons_succ, i64_w, i32_w]
         rfl
        refine pure_ (i := 3) (N := some 43) (v := ?_) (a' := ?_) #[true, true, false, true, false, false, false, false, false, false, false] rfl rfl (any_of HT_.out (by kernel_rfl)) (fun _ _ _ h => h) (Or.inl ⟨by rfl, ?_⟩) ?_ ?_
        rotate_left
        ·intro w'
         go_simp
         with_reducible rfl
        rotate_left
        ·simp only [Act.put, List.setIfInBounds_toArray, List.set_cons_zero, List.set_cons_succ, i64_w, i32_w]
         rfl
        refine take_ (i := 2) (N := some 42) (v := ?_) (a' := ?_) #[true, true, true, true, false, false, false, false, false, false, false] rfl rfl (take_ofW HT_.out HW_.out (by kernel_rfl)) (fun _ _ _ h => h) (Or.inl ⟨by rfl, ?_⟩) hHeld ?_ ?_
        rotate_left
        ·rintro w' ⟨s0, s1, s2, s3, s4, s5, s6, s7⟩
         go_simp
         with_reducible rfl
        rotate_left
        ·simp only [Act.put, List.setIfInBounds_toArray, List.set_cons_zero, List.set_cons_succ, i64_w, i32_w]
         rfl
        refine take_ (i := 4) (N := some 44) (v := ?_) (a' := ?_) #[true, true, true, true, true, false, false, false, false, false, false] rfl rfl (take_ofW HT_.out HW_.out (by kernel_rfl)) (fun _ _ _ h => h) (Or.inl ⟨by rfl, ?_⟩) hHeld ?_ ?_
        rotate_left
        ·rintro w' ⟨s0, s1, s2, s3, s4, s5, s6, s7⟩
         go_simp
         with_reducible rfl
        rotate_left
        ·simp only [Act.put, List.setIfInBounds_toArray, List.set_cons_zero, List.set_cons_succ, i64_w, i32_w]
         rfl
        refine pure_ (i := 5) (N := some 45) (v := ?_) (a' := ?_) #[true, true, true, true, true, true, false, false, false, false, false] rfl rfl (any_of HT_.out (by kernel_rfl)) (fun _ _ _ h => h) (Or.inl ⟨by rfl, ?_⟩) ?_ ?_
        rotate_left
        ·intro w'
         go_simp
         with_reducible rfl
        rotate_left
        ·simp only [Act.put, List.setIfInBounds_toArray, List.set_cons_zero, List.set_cons_succ, i64_w, i32_w]
         rfl
        refine take_ (i := 6) (N := some 46) (v := ?_) (a' := ?_) #[true, true, true, true, true, true, true, false, false, false, false] rfl rfl (take_ofW HT_.out HW_.out (by kernel_rfl)) (fun _ _ _ h => h) (Or.inl ⟨by rfl, ?_⟩) hHeld ?_ ?_
        rotate_left
        ·rintro w' ⟨s0, s1, s2, s3, s4, s5, s6, s7⟩
         go_simp
         with_reducible rfl
        rotate_left
        ·simp only [Act.put, List.setIfInBounds_toArray, List.set_cons_zero, List.set_cons_succ, i64_w, i32_w]
         rfl
        refine one_ (i := 7) (N := some 47) #[true, true, true, true, true, true, true, true, false, false, false] rfl rfl (one_of HT_.out (by kernel_rfl)) (by decide) (fun K hK => ?_)
        refine Kd.R_lit_step (Kd.int .i64) _ 3 ?hg (N := 47) ?hd (xs := ([a0_1, rd l0_3 0] : List Int)) (inner := [.int .i64 a0_1, .int .i64 (rd l0_3 0)]) (ok := fun _ => True) (okp := fun _ => True) ?hr ?hp (fun _ hk => hk) trivial (Below.refl _ _) (Nat.le_refl _) (by simp) ?_; (case hd => rfl); (case hg => rfl); (case hr => first | (go_simp; done) | (go_simp; rfl)); (case hp => exact (Reps.one (show Kd.M (Kd.int .i64) _ _ _ a0_1 [.int .i64 a0_1] from rfl) (Reps.one (show Kd.M (Kd.int .i64) _ _ _ (rd l0_3 0) [.int .i64 (rd l0_3 0)] from rfl) (Reps.none _ _))))
        intro v328 w37 ho38 hb hg_ hnew_
        clear hg_ hnew_
        (first | rw [← Ny327.out] at ho38 | (simp only [Int.reduceToNat] at ho38; rw [← Ny327.out] at ho38))
        have n0_ := Aside0.mk (Kd.R_below (kr_ HO_3) hb)
        have n1_ := Aside0.mk (Kd.R_lower ho38 (below_size (bl1_ HB GE303)))
        have n2_ := Aside0.mk (blk_below (g := gb303) (bk_ BK303) hb)
        have n3_ := Aside0.mk (below_step (bl1_ HB GE303) hb)
        clear HO_3
        clear BK303
        clear HB
        have HO_3 := n0_
        have HO329 := n1_
        have BK303 := n2_
        have HB := n3_
        clear n0_ n1_ n2_ n3_
        clear hb ho38
        obtain ⟨Ao39, co39, eo39⟩ := Kd.R_slice HO329.out
        (first | subst eo39 | (injection eo39 with f1_ f2_ f3_; have f4_ := f1_.symm; have f5_ := f3_.symm; clear f1_ f2_ f3_; subst f4_; subst f5_))
        refine hK.out _ _ ⟨(blk_cell BK303.out 0).trans rfl, (blk_cell BK303.out 1).trans rfl, (blk_cell BK303.out 2).trans rfl, (blk_cell BK303.out 3).trans rfl, (blk_cell BK303.out 4).trans rfl, (blk_cell BK303.out 5).trans rfl, (blk_cell BK303.out 6).trans rfl, ((HB.out.cell (World.block_lt_of_cell? w _ hw326_0)).trans hw326_0)⟩ (fun hHeld => ?_)
        clear hK K
        refine norm_ (a' := ?_) ?_ ?_
        rotate_left
        ·show Act.put _ (some 47) _ = _
         simp only [Act.put, List.setIfInBounds_toArray, List.set_cons_zero, List.set_cons_succ, i64_w, i32_w]
         rfl
        refine one_ (i := 8) (N := some 48) #[true, true, true, true, true, true, true, true, true, false, false] rfl rfl (one_of HT_.out (by kernel_rfl)) (by decide) (fun K hK => ?_)
        refine goes_ Try.func54 (by kernel_rfl) rfl #[.slice Ao39 y327.length co39] (by rfl) rfl rfl ar_ ?_
        with_reducible refine (basculeref03_lay.calls kj1 _ _ y327 t330 _ ?side1 ?side2 A34.out).mono ?_
        (case side1 => exact sc_ (Kd.R_reads' HO329.out).2.2)
        (case side2 => exact (Kd.R_reads' HO329.out).2.1)
        rintro e w40 ⟨v331, rfl, ho0, hb⟩
        refine ⟨_, rfl, ?_⟩
        have n0_ := Aside0.mk (Kd.R_elder' (kr_ HO_3) (Kd.R_base ho0) hb)
        have n1_ := Aside0.mk (Kd.R_below (kr_ HO329) hb)
        have n2_ := Aside0.mk (Kd.R_lower (Kd.R_new' ho0 (Kd.R_lt (kr_ HO_3))) (below_size (bl1_ HB GE303)))
        have n3_ := Aside0.mk (blk_below (g := gb303) (bk_ BK303) hb)
        have n4_ := Aside0.mk (below_step (bl1_ HB GE303) hb)
        clear HO_3
        clear HO329
        clear BK303
        clear HB
        have HO_3 := n0_
        have HO329 := n1_
        have HO332 := n2_
        have BK303 := n3_
        have HB := n4_
        clear n0_ n1_ n2_ n3_ n4_
        (try clear hb)
        (try clear hb2)
        (try clear hk)
        (try clear hi)
        (try clear ho0)
        obtain ⟨Ao42, co42, eo42⟩ := Kd.R_slice HO332.out
        (first | subst eo42 | (injection eo42 with f1_ f2_ f3_; have f4_ := f1_.symm; have f5_ := f3_.symm; clear f1_ f2_ f3_; subst f4_; subst f5_))
        refine hK.out _ _ ⟨(blk_cell BK303.out 0).trans rfl, (blk_cell BK303.out 1).trans rfl, (blk_cell BK303.out 2).trans rfl, (blk_cell BK303.out 3).trans rfl, (blk_cell BK303.out 4).trans rfl, (blk_cell BK303.out 5).trans rfl, (blk_cell BK303.out 6).trans rfl, ((HB.out.cell (World.block_lt_of_cell? w _ hw326_0)).trans hw326_0)⟩ (fun hHeld => ?_)
        clear hK K
        refine norm_ (a' := ?_) ?_ ?_
        rotate_left
        ·show Act.put _ (some 48) _ = _
         simp only [Act.put, List.setIfInBounds_toArray, List.set_cons_zero, List.set_cons_succ, i64_w, i32_w]
         rfl
        refine one_ (i := 9) (N := some 49) #[true, true, true, true, true, true, true, true, true, true, false] rfl rfl (one_of HT_.out (by kernel_rfl)) (by decide) (fun K hK => ?_)
        refine Kd.R_append_rows_step (Kd.int .u8) (w0 := w) w.heap.size (by rfl) (.tmp 40) (.tmp 48) 43 5 (.int .u8 0) 1 rfl Try.underlying43 info5 rfl (by decide) (by omega) v305 y304 t330 _ _ _ (fun k_ => some k_ ≠ (.slice Ao42 t330.length co42 : Value).ownBlock) (fun _ => False) rfl rfl ?aO ?aR (fun _ _ h => h) (fun _ h => h.elim) ?aF ?aB ?aS ?aL ?_
        (case aR => exact sc_ (Kd.R_reads' HO332.out).2.2)
        (case aB => exact (bl1_ HB GE303))
        (case aF => exact (fun k_ hk => Kd.fresh' (Kd.R_lt (kr_ HO332)) k_ hk))
        (case aO => exact (by (with_reducible repeat (first | apply Kd.R_alloc | apply Kd.R_drewN | apply Kd.R_drew)); exact Kd.R_mono HO_3.out (fun _ hk => hk.2)))
        (case aS => exact (below_size (bl1_ HB GE303)))
        (case aL => have := LMc35.out; omega)
        intro v334 w41 ho hb hg hat
        rw [← Ny333.out] at ho
        have n0_ := Aside0.mk (blk_grown (g := gb303) (bk_ BK303) hg (Kd.R_ne HO_3.out BK303.out (by decide)))
        have n1_ := Aside0.mk (Kd.R_over' (kr_ HO329) (Kd.R_typed (kr_ HO_3)) (by decide) hg)
        have n2_ := Aside0.mk (Kd.R_after (ok := (fun _ => True)) (kr_ HO332) hg hat)
        have n3_ := Aside0.mk (hb)
        have n4_ := Aside0.mk (ho)
        clear BK303
        clear HO329
        clear HO332
        clear HB
        clear HO_3
        have BK303 := n0_
        have HO329 := n1_
        have HO332 := n2_
        have HB := n3_
        have HO335 := n4_
        clear n0_ n1_ n2_ n3_ n4_
        clear ho hb hg hat
        refine hK.out _ _ ⟨(blk_cell BK303.out 0).trans rfl, (blk_cell BK303.out 1).trans rfl, (blk_cell BK303.out 2).trans rfl, (blk_cell BK303.out 3).trans rfl, (blk_cell BK303.out 4).trans rfl, (blk_cell BK303.out 5).trans rfl, (blk_cell BK303.out 6).trans rfl, ((HB.out.cell (World.block_lt_of_cell? w _ hw326_0)).trans hw326_0)⟩ (fun hHeld => ?_)
        clear hK K
        refine norm_ (a' := ?_) ?_ ?_
        rotate_left
        ·show Act.put _ (some 49) _ = _
         simp only [Act.put, List.setIfInBounds_toArray, List.set_cons_zero, List.set_cons_succ, i64_w, i32_w]
         rfl
        refine pure_ (i := 10) (N := some 3) (v := ?_) (a' := ?_) #[true, true, true, true, true, true, true, true, true, true, true] rfl rfl (any_of HT_.out (by kernel_rfl)) (fun _ _ _ h => h) (Or.inl ⟨by rfl, ?_⟩) ?_ ?_
        rotate_left
        ·intro w'
         go_simp
         with_reducible rfl
        rotate_left
        ·simp only [Act.put, List.setIfInBounds_toArray, List.set_cons_zero, List.set_cons_succ, i64_w, i32_w]
         rfl
        refine done_ (done_of HT_.out (by kernel_rfl)) ?_
        try go_wp2
        go_ret
        exact ⟨_, er_, by (with_reducible repeat (first | apply Kd.R_alloc | apply Kd.R_drewN | apply Kd.R_drew)); exact Kd.R_mono HO335.out (fun _ hk => trivial), bl1_ HB GE303⟩
       ·rw [if_neg c35] at H
        exact absurd H (by simp)
      ·rw [if_neg c33] at H
       exact absurd H (by simp)
     ·rw [if_neg c32] at H
      have c32b0 : (a0_0 == 6) = false := beq_eq_false_iff_ne.mpr c32
      have c32b1 : (a0_0 != 6) = true := bne_iff_ne.mpr c32
      by_cases c43 : a0_0 = 15
      ·rw [if_pos c43] at H
       have c43b0 : (a0_0 == 15) = true := beq_iff_eq.mpr c43
       have c43b1 : (a0_0 != 15) = false := bne_eq_false_iff_eq.mpr c43
       clear c43
       obtain ⟨y336, hy336⟩ : ∃ y_ : List Int, y_ = (([a0_1, a0_2] : List Int)) := ⟨_, rfl⟩
       replace H : ((basculeref03_lay.f kj1 y336).bind fun t339 => (if y304.length + t339.length < 140737488355328 then ((some (y304 ++ t339 : List Int)).bind fun y342 => ((basculeref01_Pack.f kj1 l0_3).bind fun t345 => ((basculeref03_counted.f t345).bind fun t348 => (if y342.length + t348.length < 140737488355328 then (some (y342 ++ t348)) else (none))))) else (none))) = some r := by first | (rw [hy336]; with_reducible exact H) | (have H2_ := (Option.bind_some _ _).symm.trans H; rw [hy336]; with_reducible exact H2_) | (have H2_ := (Option.bind_some _ _).symm.trans H; with_reducible exact H2_) | with_reducible exact H | (rw [hy336]; exact H) | exact H
       have Ny336 := Aside0.mk hy336
       clear hy336
       replace H := Option.bind_eq_some_iff.mp H
       obtain ⟨t339, A440, H⟩ := H
       replace H : (if y304.length + t339.length < 140737488355328 then ((some (y304 ++ t339 : List Int)).bind fun y342 => ((basculeref01_Pack.f kj1 l0_3).bind fun t345 => ((basculeref03_counted.f t345).bind fun t348 => (if y342.length + t348.length < 140737488355328 then (some (y342 ++ t348)) else (none))))) else (none)) = some r := H
       have A44 := Aside0.mk A440
       clear A440
       by_cases c45 : y304.length + t339.length < 140737488355328
       ·rw [if_pos c45] at H
        have LMc45 := Aside0.mk c45
        clear c45
        obtain ⟨y342, hy342⟩ : ∃ y_ : List Int, y_ = (y304 ++ t339) := ⟨_, rfl⟩
        replace H : ((basculeref01_Pack.f kj1 l0_3).bind fun t345 => ((basculeref03_counted.f t345).bind fun t348 => (if y342.length + t348.length < 140737488355328 then (some (y342 ++ t348)) else (none)))) = some r := by first | (rw [hy342]; with_reducible exact H) | (have H2_ := (Option.bind_some _ _).symm.trans H; rw [hy342]; with_reducible exact H2_) | (have H2_ := (Option.bind_some _ _).symm.trans H; with_reducible exact H2_) | with_reducible exact H | (rw [hy342]; exact H) | exact H
        have Ny342 := Aside0.mk hy342
        clear hy342
        replace H := Option.bind_eq_some_iff.mp H
        obtain ⟨t345, A460, H⟩ := H
        replace H : ((basculeref03_counted.f t345).bind fun t348 => (if y342.length + t348.length < 140737488355328 then (some (y342 ++ t348)) else (none))) = some r := H
        have A46 := Aside0.mk A460
        clear A460
        replace H := Option.bind_eq_some_iff.mp H
        obtain ⟨t348, A470, H⟩ := H
        replace H : (if y342.length + t348.length < 140737488355328 then (some (y342 ++ t348)) else (none)) = some r := H
        have A47 := Aside0.mk A470
        clear A470
        by_cases c48 : y342.length + t348.length < 140737488355328
        ·rw [if_pos c48] at H
         have LMc48 := Aside0.mk c48
         clear c48
         obtain ⟨y351, hy351⟩ : ∃ y_ : List Int, y_ = (y342 ++ t348) := ⟨_, rfl⟩
         replace H : (some y351) = some r := by first | (rw [hy351]; with_reducible exact H) | (have H2_ := (Option.bind_some _ _).symm.trans H; rw [hy351]; with_reducible exact H2_) | (have H2_ := (Option.bind_some _ _).symm.trans H; with_reducible exact H2_) | with_reducible exact H | (rw [hy351]; exact H) | exact H
         have Ny351 := Aside0.mk hy351
         clear hy351
         obtain rfl := Option.some.inj H
         refine cz7_ BK303.out ?_; intro hcz49_0 hcz49_1 hcz49_2 hcz49_3 hcz49_4 hcz49_5 hcz49_6 hfz49_0 hfz49_1 hfz49_2 hfz49_3 hfz49_4 hfz49_5 hfz49_6
         go_wp2_with (first | ((with_reducible refine gate_dst (N := 58) rfl ?_); refine Kd.R_lit (Kd.int .i64) _ 3 ?hg (N := 58) ?hd (xs := ([a0_1, a0_2] : List Int)) (inner := [.int .i64 a0_1, .int .i64 a0_2]) (ok := fun _ => True) (okp := fun _ => True) ?hr ?hp (fun _ hk => hk) trivial (Below.refl _ _) (Nat.le_refl _) (by simp) ?_; (case hd => rfl); (case hg => rfl); (case hr => first | (go_simp; done) | (go_simp; rfl)); (case hp => exact (Reps.one (show Kd.M (Kd.int .i64) _ _ _ a0_1 [.int .i64 a0_1] from rfl) (Reps.one (show Kd.M (Kd.int .i64) _ _ _ a0_2 [.int .i64 a0_2] from rfl) (Reps.none _ _)))); intro v337 w50 ho51 hb hg_ hnew_; clear hg_ hnew_; (first | rw [← Ny336.out] at ho51 | (simp only [Int.reduceToNat] at ho51; rw [← Ny336.out] at ho51)); have n0_ := Aside0.mk (Kd.R_below (kr_ HO_3) hb); have n1_ := Aside0.mk (Kd.R_lower ho51 (below_size (bl1_ HB GE303))); have n2_ := Aside0.mk (blk_below (g := gb303) (bk_ BK303) hb); have n3_ := Aside0.mk (below_step (bl1_ HB GE303) hb); clear HO_3; clear BK303; clear HB; have HO_3 := n0_; have HO338 := n1_; have BK303 := n2_; have HB := n3_; clear n0_ n1_ n2_ n3_; clear hb ho51; obtain ⟨Ao52, co52, eo52⟩ := Kd.R_slice HO338.out; subst eo52) | ((with_reducible refine gate_callee (f := 54) rfl ?_); refine goesL_ (some 59) rfl rfl Try.func54 (by kernel_rfl) rfl #[.slice Ao52 y336.length co52] rfl ar_ ?_; (with_reducible refine (basculeref03_lay.calls kj1 _ _ y336 t339 _ ?side1 ?side2 A44.out).mono ?_); (case side1 => exact sc_ (Kd.R_reads' HO338.out).2.2); (case side2 => exact (Kd.R_reads' HO338.out).2.1); rintro e w53 ⟨v340, rfl, ho0, hb⟩; refine ⟨_, rfl, ?_⟩; have n0_ := Aside0.mk (Kd.R_elder' (kr_ HO_3) (Kd.R_base ho0) hb); have n1_ := Aside0.mk (Kd.R_below (kr_ HO338) hb); have n2_ := Aside0.mk (Kd.R_lower (Kd.R_new' ho0 (Kd.R_lt (kr_ HO_3))) (below_size (bl1_ HB GE303))); have n3_ := Aside0.mk (blk_below (g := gb303) (bk_ BK303) hb); have n4_ := Aside0.mk (below_step (bl1_ HB GE303) hb); clear HO_3; clear HO338; clear BK303; clear HB; have HO_3 := n0_; have HO338 := n1_; have HO341 := n2_; have BK303 := n3_; have HB := n4_; clear n0_ n1_ n2_ n3_ n4_; (try clear hb); (try clear hb2); (try clear hk); (try clear hi); (try clear ho0); obtain ⟨Ao55, co55, eo55⟩ := Kd.R_slice HO341.out; subst eo55) | ((with_reducible refine gate_builtin (b := .append) (xs := #[.tmp 53, .tmp 59]) rfl ?_); at_builtin; refine Kd.R_append_rows (Kd.int .u8) (w0 := w) w.heap.size rfl (.tmp 53) (.tmp 59) 43 5 (.int .u8 0) 1 rfl Try.underlying43 info5 rfl (by decide) (by omega) v305 y304 t339 _ _ _ (fun k_ => some k_ ≠ (.slice Ao55 t339.length co55 : Value).ownBlock) (fun _ => False) rfl rfl ?aO ?aR (fun _ _ h => h) (fun _ h => h.elim) ?aF ?aB ?aS ?aL ?_; (case aR => exact sc_ (Kd.R_reads' HO341.out).2.2); (case aB => exact (bl1_ HB GE303)); (case aF => exact (fun k_ hk => Kd.fresh' (Kd.R_lt (kr_ HO341)) k_ hk)); (case aO => exact (by (with_reducible repeat (first | apply Kd.R_alloc | apply Kd.R_drewN | apply Kd.R_drew)); exact Kd.R_mono HO_3.out (fun _ hk => hk.2))); (case aS => exact (below_size (bl1_ HB GE303))); (case aL => have := LMc45.out; omega); intro v343 w54 ho hb hg hat; rw [← Ny342.out] at ho; have n0_ := Aside0.mk (blk_grown (g := gb303) (bk_ BK303) hg (Kd.R_ne HO_3.out BK303.out (by decide))); have n1_ := Aside0.mk (Kd.R_over' (kr_ HO338) (Kd.R_typed (kr_ HO_3)) (by decide) hg); have n2_ := Aside0.mk (Kd.R_after (ok := (fun _ => True)) (kr_ HO341) hg hat); have n3_ := Aside0.mk (hb); have n4_ := Aside0.mk (ho); clear BK303; clear HO338; clear HO341; clear HB; clear HO_3; have BK303 := n0_; have HO338 := n1_; have HO341 := n2_; have HB := n3_; have HO344 := n4_; clear n0_ n1_ n2_ n3_ n4_; clear ho hb hg hat; refine cz7_ BK303.out ?_; intro hcz56_0 hcz56_1 hcz56_2 hcz56_3 hcz56_4 hcz56_5 hcz56_6 hfz56_0 hfz56_1 hfz56_2 hfz56_3 hfz56_4 hfz56_5 hfz56_6) | ((with_reducible refine gate_callee (f := 53) rfl ?_); refine goesL_ (some 64) rfl rfl Try.func53 (by kernel_rfl) rfl #[.slice A0_3 l0_3.length c0_3] rfl ar_ ?_; (with_reducible refine (basculeref01_Pack.calls kj1 _ _ l0_3 t345 _ ?side1 ?side2 A46.out).mono ?_); (case side1 => exact sc_ (Kd.C_below HR0_3.out HB.out)); (case side2 => exact HC0_3.out); rintro e w57 ⟨v346, rfl, ho0, hb⟩; refine ⟨_, rfl, ?_⟩; have n0_ := Aside0.mk (Kd.R_below (kr_ HO338) hb); have n1_ := Aside0.mk (Kd.R_elder' (kr_ HO341) (Kd.R_base ho0) hb); have n2_ := Aside0.mk (Kd.R_elder' (kr_ HO344) (Kd.R_base ho0) hb); have n3_ := Aside0.mk (Kd.R_lower (Kd.R_new' (Kd.R_new' ho0 (Kd.R_lt (kr_ HO341))) (Kd.R_lt (kr_ HO344))) (below_size (bl1_ HB GE303))); have n4_ := Aside0.mk (blk_below (g := gb303) (bk_ BK303) hb); have n5_ := Aside0.mk (below_step (bl1_ HB GE303) hb); clear HO338; clear HO341; clear HO344; clear BK303; clear HB; have HO338 := n0_; have HO341 := n1_; have HO344 := n2_; have HO347 := n3_; have BK303 := n4_; have HB := n5_; clear n0_ n1_ n2_ n3_ n4_ n5_; (try clear hb); (try clear hb2); (try clear hk); (try clear hi); (try clear ho0); obtain ⟨Ao58, co58, eo58⟩ := Kd.R_slice HO347.out; subst eo58) | ((with_reducible refine gate_callee (f := 52) rfl ?_); refine goesL_ (some 65) rfl rfl Try.func52 (by kernel_rfl) rfl #[.slice Ao58 t345.length co58] rfl ar_ ?_; (with_reducible refine (basculeref03_counted.calls _ _ t345 t348 _ ?side1 ?side2 A47.out).mono ?_); (case side1 => exact sc_ (Kd.R_reads' HO347.out).2.2); (case side2 => exact (Kd.R_reads' HO347.out).2.1); rintro e w59 ⟨v349, rfl, ho0, hb⟩; refine ⟨_, rfl, ?_⟩; have n0_ := Aside0.mk (Kd.R_below (kr_ HO338) hb); have n1_ := Aside0.mk (Kd.R_elder' (kr_ HO341) (Kd.R_base ho0) hb); have n2_ := Aside0.mk (Kd.R_elder' (kr_ HO344) (Kd.R_base ho0) hb); have n3_ := Aside0.mk (Kd.R_elder' (kr_ HO347) (Kd.R_base ho0) hb); have n4_ := Aside0.mk (Kd.R_lower (Kd.R_new' (Kd.R_new' (Kd.R_new' ho0 (Kd.R_lt (kr_ HO341))) (Kd.R_lt (kr_ HO344))) (Kd.R_lt (kr_ HO347))) (below_size (bl1_ HB GE303))); have n5_ := Aside0.mk (blk_below (g := gb303) (bk_ BK303) hb); have n6_ := Aside0.mk (below_step (bl1_ HB GE303) hb); clear HO338; clear HO341; clear HO344; clear HO347; clear BK303; clear HB; have HO338 := n0_; have HO341 := n1_; have HO344 := n2_; have HO347 := n3_; have HO350 := n4_; have BK303 := n5_; have HB := n6_; clear n0_ n1_ n2_ n3_ n4_ n5_ n6_; (try clear hb); (try clear hb2); (try clear hk); (try clear hi); (try clear ho0); obtain ⟨Ao61, co61, eo61⟩ := Kd.R_slice HO350.out; subst eo61) | ((with_reducible refine gate_builtin (b := .append) (xs := #[.tmp 61, .tmp 65]) rfl ?_); at_builtin; refine Kd.R_append_rows (Kd.int .u8) (w0 := w) w.heap.size rfl (.tmp 61) (.tmp 65) 43 5 (.int .u8 0) 1 rfl Try.underlying43 info5 rfl (by decide) (by omega) v343 y342 t348 _ _ _ (fun k_ => some k_ ≠ (.slice Ao55 t339.length co55 : Value).ownBlock ∧ some k_ ≠ (.slice Ao58 t345.length co58 : Value).ownBlock ∧ some k_ ≠ (.slice Ao61 t348.length co61 : Value).ownBlock) (fun _ => False) rfl rfl ?aO ?aR (fun _ _ h => h) (fun _ h => h.elim) ?aF ?aB ?aS ?aL ?_; (case aR => exact sc_ (Kd.R_reads' HO350.out).2.2); (case aB => exact (bl1_ HB GE303)); (case aF => exact (fun k_ hk => ⟨Kd.fresh' (Kd.R_lt (kr_ HO341)) k_ hk, Kd.fresh' (Kd.R_lt (kr_ HO347)) k_ hk, Kd.fresh' (Kd.R_lt (kr_ HO350)) k_ hk⟩)); (case aO => exact (by (with_reducible repeat (first | apply Kd.R_alloc | apply Kd.R_drewN | apply Kd.R_drew)); exact Kd.R_mono HO344.out (fun _ hk => ⟨hk.1.1, ⟨hk.1.2, hk.2⟩⟩))); (case aS => exact (below_size (bl1_ HB GE303))); (case aL => have := LMc48.out; omega); intro v352 w60 ho hb hg hat; rw [← Ny351.out] at ho; have n0_ := Aside0.mk (blk_grown (g := gb303) (bk_ BK303) hg (Kd.R_ne HO344.out BK303.out (by decide))); have n1_ := Aside0.mk (Kd.R_over' (kr_ HO338) (Kd.R_typed (kr_ HO344)) (by decide) hg); have n2_ := Aside0.mk (Kd.R_after (ok := (fun k_ => some k_ ≠ (.slice Ao58 t345.length co58 : Value).ownBlock ∧ some k_ ≠ (.slice Ao61 t348.length co61 : Value).ownBlock)) (by (with_reducible repeat (first | apply Kd.R_alloc | apply Kd.R_drewN | apply Kd.R_drew)); exact Kd.R_mono HO341.out (fun _ hk => ⟨⟨hk.1.2, hk.2⟩, hk.1.1.2⟩)) hg hat); have n3_ := Aside0.mk (Kd.R_after (ok := (fun k_ => some k_ ≠ (.slice Ao55 t339.length co55 : Value).ownBlock ∧ some k_ ≠ (.slice Ao61 t348.length co61 : Value).ownBlock)) (by (with_reducible repeat (first | apply Kd.R_alloc | apply Kd.R_drewN | apply Kd.R_drew)); exact Kd.R_mono HO347.out (fun _ hk => ⟨⟨hk.1.1.2, hk.2⟩, hk.1.2⟩)) hg hat); have n4_ := Aside0.mk (Kd.R_after (ok := (fun k_ => some k_ ≠ (.slice Ao55 t339.length co55 : Value).ownBlock ∧ some k_ ≠ (.slice Ao58 t345.length co58 : Value).ownBlock)) (by (with_reducible repeat (first | apply Kd.R_alloc | apply Kd.R_drewN | apply Kd.R_drew)); exact Kd.R_mono HO350.out (fun _ hk => ⟨⟨hk.1.1.2, hk.2⟩, hk.1.2⟩)) hg hat); have n5_ := Aside0.mk (hb); have n6_ := Aside0.mk (ho); clear BK303; clear HO338; clear HO341; clear HO347; clear HO350; clear HB; clear HO344; have BK303 := n0_; have HO338 := n1_; have HO341 := n2_; have HO347 := n3_; have HO350 := n4_; have HB := n5_; have HO353 := n6_; clear n0_ n1_ n2_ n3_ n4_ n5_ n6_; clear ho hb hg hat))
         go_ret
         exact ⟨_, er_, by (with_reducible repeat (first | apply Kd.R_alloc | apply Kd.R_drewN | apply Kd.R_drew)); exact Kd.R_mono HO353.out (fun _ hk => trivial), bl1_ HB GE303⟩
        ·rw [if_neg c48] at H
         exact absurd H (by simp)
       ·rw [if_neg c45] at H
        exact absurd H (by simp)
      ·rw [if_neg c43] at H
       have c43b0 : (a0_0 == 15) = false := beq_eq_false_iff_ne.mpr c43
       have c43b1 : (a0_0 != 15) = true := bne_iff_ne.mpr c43
       by_cases c62 : a0_0 = 16
       ·rw [if_pos c62] at H
        have c62b0 : (a0_0 == 16) = true := beq_iff_eq.mpr c62
        have c62b1 : (a0_0 != 16) = false := bne_eq_false_iff_eq.mpr c62
        clear c62
        obtain ⟨y354, hy354⟩ : ∃ y_ : List Int, y_ = (([a0_1, a0_2] : List Int)) := ⟨_, rfl⟩
        replace H : ((basculeref03_lay.f kj1 y354).bind fun t357 => (if y304.length + t357.length < 140737488355328 then ((some (y304 ++ t357 : List Int)).bind fun y360 => ((basculeref03_lay.f kj1 l0_3).bind fun t363 => ((basculeref03_counted.f t363).bind fun t366 => (if y360.length + t366.length < 140737488355328 then (some (y360 ++ t366)) else (none))))) else (none))) = some r := by first | (rw [hy354]; with_reducible exact H) | (have H2_ := (Option.bind_some _ _).symm.trans H; rw [hy354]; with_reducible exact H2_) | (have H2_ := (Option.bind_some _ _).symm.trans H; with_reducible exact H2_) | with_reducible exact H | (rw [hy354]; exact H) | exact H
        have Ny354 := Aside0.mk hy354
        clear hy354
        replace H := Option.bind_eq_some_iff.mp H
        obtain ⟨t357, A630, H⟩ := H
        replace H : (if y304.length + t357.length < 140737488355328 then ((some (y304 ++ t357 : List Int)).bind fun y360 => ((basculeref03_lay.f kj1 l0_3).bind fun t363 => ((basculeref03_counted.f t363).bind fun t366 => (if y360.length + t366.length < 140737488355328 then (some (y360 ++ t366)) else (none))))) else (none)) = some r := H
        have A63 := Aside0.mk A630
        clear A630
        by_cases c64 : y304.length + t357.length < 140737488355328
        ·rw [if_pos c64] at H
         have LMc64 := Aside0.mk c64
         clear c64
         obtain ⟨y360, hy360⟩ : ∃ y_ : List Int, y_ = (y304 ++ t357) := ⟨_, rfl⟩
         replace H : ((basculeref03_lay.f kj1 l0_3).bind fun t363 => ((basculeref03_counted.f t363).bind fun t366 => (if y360.length + t366.length < 140737488355328 then (some (y360 ++ t366)) else (none)))) = some r := by first | (rw [hy360]; with_reducible exact H) | (have H2_ := (Option.bind_some _ _).symm.trans H; rw [hy360]; with_reducible exact H2_) | (have H2_ := (Option.bind_some _ _).symm.trans H; with_reducible exact H2_) | with_reducible exact H | (rw [hy360]; exact H) | exact H
         have Ny360 := Aside0.mk hy360
         clear hy360
         replace H := Option.bind_eq_some_iff.mp H
         obtain ⟨t363, A650, H⟩ := H
         replace H : ((basculeref03_counted.f t363).bind fun t366 => (if y360.length + t366.length < 140737488355328 then (some (y360 ++ t366)) else (none))) = some r := H
         have A65 := Aside0.mk A650
         clear A650
         replace H := Option.bind_eq_some_iff.mp H
         obtain ⟨t366, A660, H⟩ := H
         replace H : (if y360.length + t366.length < 140737488355328 then (some (y360 ++ t366)) else (none)) = some r := H
         have A66 := Aside0.mk A660
         clear A660
         by_cases c67 : y360.length + t366.length < 140737488355328
         ·rw [if_pos c67] at H
          have LMc67 := Aside0.mk c67
          clear c67
          obtain ⟨y369, hy369⟩ : ∃ y_ : List Int, y_ = (y360 ++ t366) := ⟨_, rfl⟩
          replace H : (some y369) = some r := by first | (rw [hy369]; with_reducible exact H) | (have H2_ := (Option.bind_some _ _).symm.trans H; rw [hy369]; with_reducible exact H2_) | (have H2_ := (Option.bind_some _ _).symm.trans H; with_reducible exact H2_) | with_reducible exact H | (rw [hy369]; exact H) | exact H
          have Ny369 := Aside0.mk hy369
          clear hy369
          obtain rfl := Option.some.inj H
          refine cz7_ BK303.out ?_; intro hcz68_0 hcz68_1 hcz68_2 hcz68_3 hcz68_4 hcz68_5 hcz68_6 hfz68_0 hfz68_1 hfz68_2 hfz68_3 hfz68_4 hfz68_5 hfz68_6
          go_wp2_with (first | ((with_reducible refine gate_dst (N := 75) rfl ?_); refine Kd.R_lit (Kd.int .i64) _ 3 ?hg (N := 75) ?hd (xs := ([a0_1, a0_2] : List Int)) (inner := [.int .i64 a0_1, .int .i64 a0_2]) (ok := fun _ => True) (okp := fun _ => True) ?hr ?hp (fun _ hk => hk) trivial (Below.refl _ _) (Nat.le_refl _) (by simp) ?_; (case hd => rfl); (case hg => rfl); (case hr => first | (go_simp; done) | (go_simp; rfl)); (case hp => exact (Reps.one (show Kd.M (Kd.int .i64) _ _ _ a0_1 [.int .i64 a0_1] from rfl) (Reps.one (show Kd.M (Kd.int .i64) _ _ _ a0_2 [.int .i64 a0_2] from rfl) (Reps.none _ _)))); intro v355 w69 ho70 hb hg_ hnew_; clear hg_ hnew_; (first | rw [← Ny354.out] at ho70 | (simp only [Int.reduceToNat] at ho70; rw [← Ny354.out] at ho70)); have n0_ := Aside0.mk (Kd.R_below (kr_ HO_3) hb); have n1_ := Aside0.mk (Kd.R_lower ho70 (below_size (bl1_ HB GE303))); have n2_ := Aside0.mk (blk_below (g := gb303) (bk_ BK303) hb); have n3_ := Aside0.mk (below_step (bl1_ HB GE303) hb); clear HO_3; clear BK303; clear HB; have HO_3 := n0_; have HO356 := n1_; have BK303 := n2_; have HB := n3_; clear n0_ n1_ n2_ n3_; clear hb ho70; obtain ⟨Ao71, co71, eo71⟩ := Kd.R_slice HO356.out; subst eo71) | ((with_reducible refine gate_callee (f := 54) rfl ?_); refine goesL_ (some 76) rfl rfl Try.func54 (by kernel_rfl) rfl #[.slice Ao71 y354.length co71] rfl ar_ ?_; (with_reducible refine (basculeref03_lay.calls kj1 _ _ y354 t357 _ ?side1 ?side2 A63.out).mono ?_); (case side1 => exact sc_ (Kd.R_reads' HO356.out).2.2); (case side2 => exact (Kd.R_reads' HO356.out).2.1); rintro e w72 ⟨v358, rfl, ho0, hb⟩; refine ⟨_, rfl, ?_⟩; have n0_ := Aside0.mk (Kd.R_elder' (kr_ HO_3) (Kd.R_base ho0) hb); have n1_ := Aside0.mk (Kd.R_below (kr_ HO356) hb); have n2_ := Aside0.mk (Kd.R_lower (Kd.R_new' ho0 (Kd.R_lt (kr_ HO_3))) (below_size (bl1_ HB GE303))); have n3_ := Aside0.mk (blk_below (g := gb303) (bk_ BK303) hb); have n4_ := Aside0.mk (below_step (bl1_ HB GE303) hb); clear HO_3; clear HO356; clear BK303; clear HB; have HO_3 := n0_; have HO356 := n1_; have HO359 := n2_; have BK303 := n3_; have HB := n4_; clear n0_ n1_ n2_ n3_ n4_; (try clear hb); (try clear hb2); (try clear hk); (try clear hi); (try clear ho0); obtain ⟨Ao74, co74, eo74⟩ := Kd.R_slice HO359.out; subst eo74) | ((with_reducible refine gate_builtin (b := .append) (xs := #[.tmp 70, .tmp 76]) rfl ?_); at_builtin; refine Kd.R_append_rows (Kd.int .u8) (w0 := w) w.heap.size rfl (.tmp 70) (.tmp 76) 43 5 (.int .u8 0) 1 rfl Try.underlying43 info5 rfl (by decide) (by omega) v305 y304 t357 _ _ _ (fun k_ => some k_ ≠ (.slice Ao74 t357.length co74 : Value).ownBlock) (fun _ => False) rfl rfl ?aO ?aR (fun _ _ h => h) (fun _ h => h.elim) ?aF ?aB ?aS ?aL ?_; (case aR => exact sc_ (Kd.R_reads' HO359.out).2.2); (case aB => exact (bl1_ HB GE303)); (case aF => exact (fun k_ hk => Kd.fresh' (Kd.R_lt (kr_ HO359)) k_ hk)); (case aO => exact (by (with_reducible repeat (first | apply Kd.R_alloc | apply Kd.R_drewN | apply Kd.R_drew)); exact Kd.R_mono HO_3.out (fun _ hk => hk.2))); (case aS => exact (below_size (bl1_ HB GE303))); (case aL => have := LMc64.out; omega); intro v361 w73 ho hb hg hat; rw [← Ny360.out] at ho; have n0_ := Aside0.mk (blk_grown (g := gb303) (bk_ BK303) hg (Kd.R_ne HO_3.out BK303.out (by decide))); have n1_ := Aside0.mk (Kd.R_over' (kr_ HO356) (Kd.R_typed (kr_ HO_3)) (by decide) hg); have n2_ := Aside0.mk (Kd.R_after (ok := (fun _ => True)) (kr_ HO359) hg hat); have n3_ := Aside0.mk (hb); have n4_ := Aside0.mk (ho); clear BK303; clear HO356; clear HO359; clear HB; clear HO_3; have BK303 := n0_; have HO356 := n1_; have HO359 := n2_; have HB := n3_; have HO362 := n4_; clear n0_ n1_ n2_ n3_ n4_; clear ho hb hg hat; refine cz7_ BK303.out ?_; intro hcz75_0 hcz75_1 hcz75_2 hcz75_3 hcz75_4 hcz75_5 hcz75_6 hfz75_0 hfz75_1 hfz75_2 hfz75_3 hfz75_4 hfz75_5 hfz75_6) | ((with_reducible refine gate_callee (f := 54) rfl ?_); refine goesL_ (some 81) rfl rfl Try.func54 (by kernel_rfl) rfl #[.slice A0_3 l0_3.length c0_3] rfl ar_ ?_; (with_reducible refine (basculeref03_lay.calls kj1 _ _ l0_3 t363 _ ?side1 ?side2 A65.out).mono ?_); (case side1 => exact sc_ (Kd.C_below HR0_3.out HB.out)); (case side2 => exact HC0_3.out); rintro e w76 ⟨v364, rfl, ho0, hb⟩; refine ⟨_, rfl, ?_⟩; have n0_ := Aside0.mk (Kd.R_below (kr_ HO356) hb); have n1_ := Aside0.mk (Kd.R_elder' (kr_ HO359) (Kd.R_base ho0) hb); have n2_ := Aside0.mk (Kd.R_elder' (kr_ HO362) (Kd.R_base ho0) hb); have n3_ := Aside0.mk (Kd.R_lower (Kd.R_new' (Kd.R_new' ho0 (Kd.R_lt (kr_ HO359))) (Kd.R_lt (kr_ HO362))) (below_size (bl1_ HB GE303))); have n4_ := Aside0.mk (blk_below (g := gb303) (bk_ BK303) hb); have n5_ := Aside0.mk (below_step (bl1_ HB GE303) hb); clear HO356; clear HO359; clear HO362; clear BK303; clear HB; have HO356 := n0_; have HO359 := n1_; have HO362 := n2_; have HO365 := n3_; have BK303 := n4_; have HB := n5_; clear n0_ n1_ n2_ n3_ n4_ n5_; (try clear hb); (try clear hb2); (try clear hk); (try clear hi); (try clear ho0); obtain ⟨Ao77, co77, eo77⟩ := Kd.R_slice HO365.out; subst eo77) | ((with_reducible refine gate_callee (f := 52) rfl ?_); refine goesL_ (some 82) rfl rfl Try.func52 (by kernel_rfl) rfl #[.slice Ao77 t363.length co77] rfl ar_ ?_; (with_reducible refine (basculeref03_counted.calls _ _ t363 t366 _ ?side1 ?side2 A66.out).mono ?_); (case side1 => exact sc_ (Kd.R_reads' HO365.out).2.2); (case side2 => exact (Kd.R_reads' HO365.out).2.1); rintro e w78 ⟨v367, rfl, ho0, hb⟩; refine ⟨_, rfl, ?_⟩; have n0_ := Aside0.mk (Kd.R_below (kr_ HO356) hb); have n1_ := Aside0.mk (Kd.R_elder' (kr_ HO359) (Kd.R_base ho0) hb); have n2_ := Aside0.mk (Kd.R_elder' (kr_ HO362) (Kd.R_base ho0) hb); have n3_ := Aside0.mk (Kd.R_elder' (kr_ HO365) (Kd.R_base ho0) hb); have n4_ := Aside0.mk (Kd.R_lower (Kd.R_new' (Kd.R_new' (Kd.R_new' ho0 (Kd.R_lt (kr_ HO359))) (Kd.R_lt (kr_ HO362))) (Kd.R_lt (kr_ HO365))) (below_size (bl1_ HB GE303))); have n5_ := Aside0.mk (blk_below (g := gb303) (bk_ BK303) hb); have n6_ := Aside0.mk (below_step (bl1_ HB GE303) hb); clear HO356; clear HO359; clear HO362; clear HO365; clear BK303; clear HB; have HO356 := n0_; have HO359 := n1_; have HO362 := n2_; have HO365 := n3_; have HO368 := n4_; have BK303 := n5_; have HB := n6_; clear n0_ n1_ n2_ n3_ n4_ n5_ n6_; (try clear hb); (try clear hb2); (try clear hk); (try clear hi); (try clear ho0); obtain ⟨Ao80, co80, eo80⟩ := Kd.R_slice HO368.out; subst eo80) | ((with_reducible refine gate_builtin (b := .append) (xs := #[.tmp 78, .tmp 82]) rfl ?_); at_builtin; refine Kd.R_append_rows (Kd.int .u8) (w0 := w) w.heap.size rfl (.tmp 78) (.tmp 82) 43 5 (.int .u8 0) 1 rfl Try.underlying43 info5 rfl (by decide) (by omega) v361 y360 t366 _ _ _ (fun k_ => some k_ ≠ (.slice Ao74 t357.length co74 : Value).ownBlock ∧ some k_ ≠ (.slice Ao77 t363.length co77 : Value).ownBlock ∧ some k_ ≠ (.slice Ao80 t366.length co80 : Value).ownBlock) (fun _ => False) rfl rfl ?aO ?aR (fun _ _ h => h) (fun _ h => h.elim) ?aF ?aB ?aS ?aL ?_; (case aR => exact sc_ (Kd.R_reads' HO368.out).2.2); (case aB => exact (bl1_ HB GE303)); (case aF => exact (fun k_ hk => ⟨Kd.fresh' (Kd.R_lt (kr_ HO359)) k_ hk, Kd.fresh' (Kd.R_lt (kr_ HO365)) k_ hk, Kd.fresh' (Kd.R_lt (kr_ HO368)) k_ hk⟩)); (case aO => exact (by (with_reducible repeat (first | apply Kd.R_alloc | apply Kd.R_drewN | apply Kd.R_drew)); exact Kd.R_mono HO362.out (fun _ hk => ⟨hk.1.1, ⟨hk.1.2, hk.2⟩⟩))); (case aS => exact (below_size (bl1_ HB GE303))); (case aL => have := LMc67.out; omega); intro v370 w79 ho hb hg hat; rw [← Ny369.out] at ho; have n0_ := Aside0.mk (blk_grown (g := gb303) (bk_ BK303) hg (Kd.R_ne HO362.out BK303.out (by decide))); have n1_ := Aside0.mk (Kd.R_over' (kr_ HO356) (Kd.R_typed (kr_ HO362)) (by decide) hg); have n2_ := Aside0.mk (Kd.R_after (ok := (fun k_ => some k_ ≠ (.slice Ao77 t363.length co77 : Value).ownBlock ∧ some k_ ≠ (.slice Ao80 t366.length co80 : Value).ownBlock)) (by (with_reducible repeat (first | apply Kd.R_alloc | apply Kd.R_drewN | apply Kd.R_drew)); exact Kd.R_mono HO359.out (fun _ hk => ⟨⟨hk.1.2, hk.2⟩, hk.1.1.2⟩)) hg hat); have n3_ := Aside0.mk (Kd.R_after (ok := (fun k_ => some k_ ≠ (.slice Ao74 t357.length co74 : Value).ownBlock ∧ some k_ ≠ (.slice Ao80 t366.length co80 : Value).ownBlock)) (by (with_reducible repeat (first | apply Kd.R_alloc | apply Kd.R_drewN | apply Kd.R_drew)); exact Kd.R_mono HO365.out (fun _ hk => ⟨⟨hk.1.1.2, hk.2⟩, hk.1.2⟩)) hg hat); have n4_ := Aside0.mk (Kd.R_after (ok := (fun k_ => some k_ ≠ (.slice Ao74 t357.length co74 : Value).ownBlock ∧ some k_ ≠ (.slice Ao77 t363.length co77 : Value).ownBlock)) (by (with_reducible repeat (first | apply Kd.R_alloc | apply Kd.R_drewN | apply Kd.R_drew)); exact Kd.R_mono HO368.out (fun _ hk => ⟨⟨hk.1.1.2, hk.2⟩, hk.1.2⟩)) hg hat); have n5_ := Aside0.mk (hb); have n6_ := Aside0.mk (ho); clear BK303; clear HO356; clear HO359; clear HO365; clear HO368; clear HB; clear HO362; have BK303 := n0_; have HO356 := n1_; have HO359 := n2_; have HO365 := n3_; have HO368 := n4_; have HB := n5_; have HO371 := n6_; clear n0_ n1_ n2_ n3_ n4_ n5_ n6_; clear ho hb hg hat))
          go_ret
          exact ⟨_, er_, by (with_reducible repeat (first | apply Kd.R_alloc | apply Kd.R_drewN | apply Kd.R_drew)); exact Kd.R_mono HO371.out (fun _ hk => trivial), bl1_ HB GE303⟩
         ·rw [if_neg c67] at H
          exact absurd H (by simp)
        ·rw [if_neg c64] at H
         exact absurd H (by simp)
       ·rw [if_neg c62] at H
        have c62b0 : (a0_0 == 16) = false := beq_eq_false_iff_ne.mpr c62
        have c62b1 : (a0_0 != 16) = true := bne_iff_ne.mpr c62
        by_cases c81 : a0_0 = 22
        ·rw [if_pos c81] at H
         have c81b0 : (a0_0 == 22) = true := beq_iff_eq.mpr c81
         have c81b1 : (a0_0 != 22) = false := bne_eq_false_iff_eq.mpr c81
         clear c81
         obtain ⟨y372, hy372⟩ : ∃ y_ : List Int, y_ = (([a0_1, a0_5, a0_6] : List Int)) := ⟨_, rfl⟩
         replace H : ((basculeref03_lay.f kj1 y372).bind fun t375 => (if y304.length + t375.length < 140737488355328 then (some (y304 ++ t375)) else (none))) = some r := by first | (rw [hy372]; with_reducible exact H) | (have H2_ := (Option.bind_some _ _).symm.trans H; rw [hy372]; with_reducible exact H2_) | (have H2_ := (Option.bind_some _ _).symm.trans H; with_reducible exact H2_) | with_reducible exact H | (rw [hy372]; exact H) | exact H
         have Ny372 := Aside0.mk hy372
         clear hy372
         replace H := Option.bind_eq_some_iff.mp H
         obtain ⟨t375, A820, H⟩ := H
         replace H : (if y304.length + t375.length < 140737488355328 then (some (y304 ++ t375)) else (none)) = some r := H
         have A82 := Aside0.mk A820
         clear A820
         by_cases c83 : y304.length + t375.length < 140737488355328
         ·rw [if_pos c83] at H
          have LMc83 := Aside0.mk c83
          clear c83
          obtain ⟨y378, hy378⟩ : ∃ y_ : List Int, y_ = (y304 ++ t375) := ⟨_, rfl⟩
          replace H : (some y378) = some r := by first | (rw [hy378]; with_reducible exact H) | (have H2_ := (Option.bind_some _ _).symm.trans H; rw [hy378]; with_reducible exact H2_) | (have H2_ := (Option.bind_some _ _).symm.trans H; with_reducible exact H2_) | with_reducible exact H | (rw [hy378]; exact H) | exact H
          have Ny378 := Aside0.mk hy378
          clear hy378
          obtain rfl := Option.some.inj H
          refine cz7_ BK303.out ?_; intro hcz84_0 hcz84_1 hcz84_2 hcz84_3 hcz84_4 hcz84_5 hcz84_6 hfz84_0 hfz84_1 hfz84_2 hfz84_3 hfz84_4 hfz84_5 hfz84_6
          go_wp2_with (first | ((with_reducible refine gate_dst (N := 94) rfl ?_); refine Kd.R_lit (Kd.int .i64) _ 3 ?hg (N := 94) ?hd (xs := ([a0_1, a0_5, a0_6] : List Int)) (inner := [.int .i64 a0_1, .int .i64 a0_5, .int .i64 a0_6]) (ok := fun _ => True) (okp := fun _ => True) ?hr ?hp (fun _ hk => hk) trivial (Below.refl _ _) (Nat.le_refl _) (by simp) ?_; (case hd => rfl); (case hg => rfl); (case hr => first | (go_simp; done) | (go_simp; rfl)); (case hp => exact (Reps.one (show Kd.M (Kd.int .i64) _ _ _ a0_1 [.int .i64 a0_1] from rfl) (Reps.one (show Kd.M (Kd.int .i64) _ _ _ a0_5 [.int .i64 a0_5] from rfl) (Reps.one (show Kd.M (Kd.int .i64) _ _ _ a0_6 [.int .i64 a0_6] from rfl) (Reps.none _ _))))); intro v373 w85 ho86 hb hg_ hnew_; clear hg_ hnew_; (first | rw [← Ny372.out] at ho86 | (simp only [Int.reduceToNat] at ho86; rw [← Ny372.out] at ho86)); have n0_ := Aside0.mk (Kd.R_below (kr_ HO_3) hb); have n1_ := Aside0.mk (Kd.R_lower ho86 (below_size (bl1_ HB GE303))); have n2_ := Aside0.mk (blk_below (g := gb303) (bk_ BK303) hb); have n3_ := Aside0.mk (below_step (bl1_ HB GE303) hb); clear HO_3; clear BK303; clear HB; have HO_3 := n0_; have HO374 := n1_; have BK303 := n2_; have HB := n3_; clear n0_ n1_ n2_ n3_; clear hb ho86; obtain ⟨Ao87, co87, eo87⟩ := Kd.R_slice HO374.out; subst eo87) | ((with_reducible refine gate_callee (f := 54) rfl ?_); refine goesL_ (some 95) rfl rfl Try.func54 (by kernel_rfl) rfl #[.slice Ao87 y372.length co87] rfl ar_ ?_; (with_reducible refine (basculeref03_lay.calls kj1 _ _ y372 t375 _ ?side1 ?side2 A82.out).mono ?_); (case side1 => exact sc_ (Kd.R_reads' HO374.out).2.2); (case side2 => exact (Kd.R_reads' HO374.out).2.1); rintro e w88 ⟨v376, rfl, ho0, hb⟩; refine ⟨_, rfl, ?_⟩; have n0_ := Aside0.mk (Kd.R_elder' (kr_ HO_3) (Kd.R_base ho0) hb); have n1_ := Aside0.mk (Kd.R_below (kr_ HO374) hb); have n2_ := Aside0.mk (Kd.R_lower (Kd.R_new' ho0 (Kd.R_lt (kr_ HO_3))) (below_size (bl1_ HB GE303))); have n3_ := Aside0.mk (blk_below (g := gb303) (bk_ BK303) hb); have n4_ := Aside0.mk (below_step (bl1_ HB GE303) hb); clear HO_3; clear HO374; clear BK303; clear HB; have HO_3 := n0_; have HO374 := n1_; have HO377 := n2_; have BK303 := n3_; have HB := n4_; clear n0_ n1_ n2_ n3_ n4_; (try clear hb); (try clear hb2); (try clear hk); (try clear hi); (try clear ho0); obtain ⟨Ao90, co90, eo90⟩ := Kd.R_slice HO377.out; subst eo90) | ((with_reducible refine gate_builtin (b := .append) (xs := #[.tmp 87, .tmp 95]) rfl ?_); at_builtin; refine Kd.R_append_rows (Kd.int .u8) (w0 := w) w.heap.size rfl (.tmp 87) (.tmp 95) 43 5 (.int .u8 0) 1 rfl Try.underlying43 info5 rfl (by decide) (by omega) v305 y304 t375 _ _ _ (fun k_ => some k_ ≠ (.slice Ao90 t375.length co90 : Value).ownBlock) (fun _ => False) rfl rfl ?aO ?aR (fun _ _ h => h) (fun _ h => h.elim) ?aF ?aB ?aS ?aL ?_; (case aR => exact sc_ (Kd.R_reads' HO377.out).2.2); (case aB => exact (bl1_ HB GE303)); (case aF => exact (fun k_ hk => Kd.fresh' (Kd.R_lt (kr_ HO377)) k_ hk)); (case aO => exact (by (with_reducible repeat (first | apply Kd.R_alloc | apply Kd.R_drewN | apply Kd.R_drew)); exact Kd.R_mono HO_3.out (fun _ hk => hk.2))); (case aS => exact (below_size (bl1_ HB GE303))); (case aL => have := LMc83.out; omega); intro v379 w89 ho hb hg hat; rw [← Ny378.out] at ho; have n0_ := Aside0.mk (blk_grown (g := gb303) (bk_ BK303) hg (Kd.R_ne HO_3.out BK303.out (by decide))); have n1_ := Aside0.mk (Kd.R_over' (kr_ HO374) (Kd.R_typed (kr_ HO_3)) (by decide) hg); have n2_ := Aside0.mk (Kd.R_after (ok := (fun _ => True)) (kr_ HO377) hg hat); have n3_ := Aside0.mk (hb); have n4_ := Aside0.mk (ho); clear BK303; clear HO374; clear HO377; clear HB; clear HO_3; have BK303 := n0_; have HO374 := n1_; have HO377 := n2_; have HB := n3_; have HO380 := n4_; clear n0_ n1_ n2_ n3_ n4_; clear ho hb hg hat))
          go_ret
          exact ⟨_, er_, by (with_reducible repeat (first | apply Kd.R_alloc | apply Kd.R_drewN | apply Kd.R_drew)); exact Kd.R_mono HO380.out (fun _ hk => trivial), bl1_ HB GE303⟩
         ·rw [if_neg c83] at H
          exact absurd H (by simp)
        ·rw [if_neg c81] at H
         have c81b0 : (a0_0 == 22) = false := beq_eq_false_iff_ne.mpr c81
         have c81b1 : (a0_0 != 22) = true := bne_iff_ne.mpr c81
         obtain ⟨y381, hy381⟩ : ∃ y_ : List Int, y_ = (([a0_1, a0_2, a0_4, (l0_3.length : Int)] : List Int)) := ⟨_, rfl⟩
         replace H : ((basculeref03_lay.f kj1 y381).bind fun t384 => (if y304.length + t384.length < 140737488355328 then ((some (y304 ++ t384 : List Int)).bind fun y387 => ((basculeref03_lay.f kj1 l0_3).bind fun t390 => ((basculeref03_counted.f t390).bind fun t393 => (if y387.length + t393.length < 140737488355328 then (some (y387 ++ t393)) else (none))))) else (none))) = some r := by first | (rw [hy381]; with_reducible exact H) | (have H2_ := (Option.bind_some _ _).symm.trans H; rw [hy381]; with_reducible exact H2_) | (have H2_ := (Option.bind_some _ _).symm.trans H; with_reducible exact H2_) | with_reducible exact H | (rw [hy381]; exact H) | exact H
         have Ny381 := Aside0.mk hy381
         clear hy381
         replace H := Option.bind_eq_some_iff.mp H
         obtain ⟨t384, A910, H⟩ := H
         replace H : (if y304.length + t384.length < 140737488355328 then ((some (y304 ++ t384 : List Int)).bind fun y387 => ((basculeref03_lay.f kj1 l0_3).bind fun t390 => ((basculeref03_counted.f t390).bind fun t393 => (if y387.length + t393.length < 140737488355328 then (some (y387 ++ t393)) else (none))))) else (none)) = some r := H
         have A91 := Aside0.mk A910
         clear A910
         by_cases c92 : y304.length + t384.length < 140737488355328
         ·rw [if_pos c92] at H
          have LMc92 := Aside0.mk c92
          clear c92
          obtain ⟨y387, hy387⟩ : ∃ y_ : List Int, y_ = (y304 ++ t384) := ⟨_, rfl⟩
          replace H : ((basculeref03_lay.f kj1 l0_3).bind fun t390 => ((basculeref03_counted.f t390).bind fun t393 => (if y387.length + t393.length < 140737488355328 then (some (y387 ++ t393)) else (none)))) = some r := by first | (rw [hy387]; with_reducible exact H) | (have H2_ := (Option.bind_some _ _).symm.trans H; rw [hy387]; with_reducible exact H2_) | (have H2_ := (Option.bind_some _ _).symm.trans H; with_reducible exact H2_) | with_reducible exact H | (rw [hy387]; exact H) | exact H
          have Ny387 := Aside0.mk hy387
          clear hy387
          replace H := Option.bind_eq_some_iff.mp H
          obtain ⟨t390, A930, H⟩ := H
          replace H : ((basculeref03_counted.f t390).bind fun t393 => (if y387.length + t393.length < 140737488355328 then (some (y387 ++ t393)) else (none))) = some r := H
          have A93 := Aside0.mk A930
          clear A930
          replace H := Option.bind_eq_some_iff.mp H
          obtain ⟨t393, A940, H⟩ := H
          replace H : (if y387.length + t393.length < 140737488355328 then (some (y387 ++ t393)) else (none)) = some r := H
          have A94 := Aside0.mk A940
          clear A940
          by_cases c95 : y387.length + t393.length < 140737488355328
          ·rw [if_pos c95] at H
           have LMc95 := Aside0.mk c95
           clear c95
           obtain ⟨y396, hy396⟩ : ∃ y_ : List Int, y_ = (y387 ++ t393) := ⟨_, rfl⟩
           replace H : (some y396) = some r := by first | (rw [hy396]; with_reducible exact H) | (have H2_ := (Option.bind_some _ _).symm.trans H; rw [hy396]; with_reducible exact H2_) | (have H2_ := (Option.bind_some _ _).symm.trans H; with_reducible exact H2_) | with_reducible exact H | (rw [hy396]; exact H) | exact H
           have Ny396 := Aside0.mk hy396
           clear hy396
           obtain rfl := Option.some.inj H
           refine cz7_ BK303.out ?_; intro hcz96_0 hcz96_1 hcz96_2 hcz96_3 hcz96_4 hcz96_5 hcz96_6 hfz96_0 hfz96_1 hfz96_2 hfz96_3 hfz96_4 hfz96_5 hfz96_6
           go_wp2_with (first | ((with_reducible refine gate_dst (N := 108) rfl ?_); refine Kd.R_lit (Kd.int .i64) _ 3 ?hg (N := 108) ?hd (xs := ([a0_1, a0_2, a0_4, (l0_3.length : Int)] : List Int)) (inner := [.int .i64 a0_1, .int .i64 a0_2, .int .i64 a0_4, .int .i64 (l0_3.length : Int)]) (ok := fun _ => True) (okp := fun _ => True) ?hr ?hp (fun _ hk => hk) trivial (Below.refl _ _) (Nat.le_refl _) (by simp) ?_; (case hd => rfl); (case hg => rfl); (case hr => first | (go_simp; done) | (go_simp; rfl)); (case hp => exact (Reps.one (show Kd.M (Kd.int .i64) _ _ _ a0_1 [.int .i64 a0_1] from rfl) (Reps.one (show Kd.M (Kd.int .i64) _ _ _ a0_2 [.int .i64 a0_2] from rfl) (Reps.one (show Kd.M (Kd.int .i64) _ _ _ a0_4 [.int .i64 a0_4] from rfl) (Reps.one (show Kd.M (Kd.int .i64) _ _ _ (l0_3.length : Int) [.int .i64 (l0_3.length : Int)] from rfl) (Reps.none _ _)))))); intro v382 w97 ho98 hb hg_ hnew_; clear hg_ hnew_; (first | rw [← Ny381.out] at ho98 | (simp only [Int.reduceToNat] at ho98; rw [← Ny381.out] at ho98)); have n0_ := Aside0.mk (Kd.R_below (kr_ HO_3) hb); have n1_ := Aside0.mk (Kd.R_lower ho98 (below_size (bl1_ HB GE303))); have n2_ := Aside0.mk (blk_below (g := gb303) (bk_ BK303) hb); have n3_ := Aside0.mk (below_step (bl1_ HB GE303) hb); clear HO_3; clear BK303; clear HB; have HO_3 := n0_; have HO383 := n1_; have BK303 := n2_; have HB := n3_; clear n0_ n1_ n2_ n3_; clear hb ho98; obtain ⟨Ao99, co99, eo99⟩ := Kd.R_slice HO383.out; subst eo99) | ((with_reducible refine gate_callee (f := 54) rfl ?_); refine goesL_ (some 109) rfl rfl Try.func54 (by kernel_rfl) rfl #[.slice Ao99 y381.length co99] rfl ar_ ?_; (with_reducible refine (basculeref03_lay.calls kj1 _ _ y381 t384 _ ?side1 ?side2 A91.out).mono ?_); (case side1 => exact sc_ (Kd.R_reads' HO383.out).2.2); (case side2 => exact (Kd.R_reads' HO383.out).2.1); rintro e w100 ⟨v385, rfl, ho0, hb⟩; refine ⟨_, rfl, ?_⟩; have n0_ := Aside0.mk (Kd.R_elder' (kr_ HO_3) (Kd.R_base ho0) hb); have n1_ := Aside0.mk (Kd.R_below (kr_ HO383) hb); have n2_ := Aside0.mk (Kd.R_lower (Kd.R_new' ho0 (Kd.R_lt (kr_ HO_3))) (below_size (bl1_ HB GE303))); have n3_ := Aside0.mk (blk_below (g := gb303) (bk_ BK303) hb); have n4_ := Aside0.mk (below_step (bl1_ HB GE303) hb); clear HO_3; clear HO383; clear BK303; clear HB; have HO_3 := n0_; have HO383 := n1_; have HO386 := n2_; have BK303 := n3_; have HB := n4_; clear n0_ n1_ n2_ n3_ n4_; (try clear hb); (try clear hb2); (try clear hk); (try clear hi); (try clear ho0); obtain ⟨Ao102, co102, eo102⟩ := Kd.R_slice HO386.out; subst eo102) | ((with_reducible refine gate_builtin (b := .append) (xs := #[.tmp 98, .tmp 109]) rfl ?_); at_builtin; refine Kd.R_append_rows (Kd.int .u8) (w0 := w) w.heap.size rfl (.tmp 98) (.tmp 109) 43 5 (.int .u8 0) 1 rfl Try.underlying43 info5 rfl (by decide) (by omega) v305 y304 t384 _ _ _ (fun k_ => some k_ ≠ (.slice Ao102 t384.length co102 : Value).ownBlock) (fun _ => False) rfl rfl ?aO ?aR (fun _ _ h => h) (fun _ h => h.elim) ?aF ?aB ?aS ?aL ?_; (case aR => exact sc_ (Kd.R_reads' HO386.out).2.2); (case aB => exact (bl1_ HB GE303)); (case aF => exact (fun k_ hk => Kd.fresh' (Kd.R_lt (kr_ HO386)) k_ hk)); (case aO => exact (by (with_reducible repeat (first | apply Kd.R_alloc | apply Kd.R_drewN | apply Kd.R_drew)); exact Kd.R_mono HO_3.out (fun _ hk => hk.2))); (case aS => exact (below_size (bl1_ HB GE303))); (case aL => have := LMc92.out; omega); intro v388 w101 ho hb hg hat; rw [← Ny387.out] at ho; have n0_ := Aside0.mk (blk_grown (g := gb303) (bk_ BK303) hg (Kd.R_ne HO_3.out BK303.out (by decide))); have n1_ := Aside0.mk (Kd.R_over' (kr_ HO383) (Kd.R_typed (kr_ HO_3)) (by decide) hg); have n2_ := Aside0.mk (Kd.R_after (ok := (fun _ => True)) (kr_ HO386) hg hat); have n3_ := Aside0.mk (hb); have n4_ := Aside0.mk (ho); clear BK303; clear HO383; clear HO386; clear HB; clear HO_3; have BK303 := n0_; have HO383 := n1_; have HO386 := n2_; have HB := n3_; have HO389 := n4_; clear n0_ n1_ n2_ n3_ n4_; clear ho hb hg hat; refine cz7_ BK303.out ?_; intro hcz103_0 hcz103_1 hcz103_2 hcz103_3 hcz103_4 hcz103_5 hcz103_6 hfz103_0 hfz103_1 hfz103_2 hfz103_3 hfz103_4 hfz103_5 hfz103_6) | ((with_reducible refine gate_callee (f := 54) rfl ?_); refine goesL_ (some 114) rfl rfl Try.func54 (by kernel_rfl) rfl #[.slice A0_3 l0_3.length c0_3] rfl ar_ ?_; (with_reducible refine (basculeref03_lay.calls kj1 _ _ l0_3 t390 _ ?side1 ?side2 A93.out).mono ?_); (case side1 => exact sc_ (Kd.C_below HR0_3.out HB.out)); (case side2 => exact HC0_3.out); rintro e w104 ⟨v391, rfl, ho0, hb⟩; refine ⟨_, rfl, ?_⟩; have n0_ := Aside0.mk (Kd.R_below (kr_ HO383) hb); have n1_ := Aside0.mk (Kd.R_elder' (kr_ HO386) (Kd.R_base ho0) hb); have n2_ := Aside0.mk (Kd.R_elder' (kr_ HO389) (Kd.R_base ho0) hb); have n3_ := Aside0.mk (Kd.R_lower (Kd.R_new' (Kd.R_new' ho0 (Kd.R_lt (kr_ HO386))) (Kd.R_lt (kr_ HO389))) (below_size (bl1_ HB GE303))); have n4_ := Aside0.mk (blk_below (g := gb303) (bk_ BK303) hb); have n5_ := Aside0.mk (below_step (bl1_ HB GE303) hb); clear HO383; clear HO386; clear HO389; clear BK303; clear HB; have HO383 := n0_; have HO386 := n1_; have HO389 := n2_; have HO392 := n3_; have BK303 := n4_; have HB := n5_; clear n0_ n1_ n2_ n3_ n4_ n5_; (try clear hb); (try clear hb2); (try clear hk); (try clear hi); (try clear ho0); obtain ⟨Ao105, co105, eo105⟩ := Kd.R_slice HO392.out; subst eo105) | ((with_reducible refine gate_callee (f := 52) rfl ?_); refine goesL_ (some 115) rfl rfl Try.func52 (by kernel_rfl) rfl #[.slice Ao105 t390.length co105] rfl ar_ ?_; (with_reducible refine (basculeref03_counted.calls _ _ t390 t393 _ ?side1 ?side2 A94.out).mono ?_); (case side1 => exact sc_ (Kd.R_reads' HO392.out).2.2); (case side2 => exact (Kd.R_reads' HO392.out).2.1); rintro e w106 ⟨v394, rfl, ho0, hb⟩; refine ⟨_, rfl, ?_⟩; have n0_ := Aside0.mk (Kd.R_below (kr_ HO383) hb); have n1_ := Aside0.mk (Kd.R_elder' (kr_ HO386) (Kd.R_base ho0) hb); have n2_ := Aside0.mk (Kd.R_elder' (kr_ HO389) (Kd.R_base ho0) hb); have n3_ := Aside0.mk (Kd.R_elder' (kr_ HO392) (Kd.R_base ho0) hb); have n4_ := Aside0.mk (Kd.R_lower (Kd.R_new' (Kd.R_new' (Kd.R_new' ho0 (Kd.R_lt (kr_ HO386))) (Kd.R_lt (kr_ HO389))) (Kd.R_lt (kr_ HO392))) (below_size (bl1_ HB GE303))); have n5_ := Aside0.mk (blk_below (g := gb303) (bk_ BK303) hb); have n6_ := Aside0.mk (below_step (bl1_ HB GE303) hb); clear HO383; clear HO386; clear HO389; clear HO392; clear BK303; clear HB; have HO383 := n0_; have HO386 := n1_; have HO389 := n2_; have HO392 := n3_; have HO395 := n4_; have BK303 := n5_; have HB := n6_; clear n0_ n1_ n2_ n3_ n4_ n5_ n6_; (try clear hb); (try clear hb2); (try clear hk); (try clear hi); (try clear ho0); obtain ⟨Ao108, co108, eo108⟩ := Kd.R_slice HO395.out; subst eo108) | ((with_reducible refine gate_builtin (b := .append) (xs := #[.tmp 111, .tmp 115]) rfl ?_); at_builtin; refine Kd.R_append_rows (Kd.int .u8) (w0 := w) w.heap.size rfl (.tmp 111) (.tmp 115) 43 5 (.int .u8 0) 1 rfl Try.underlying43 info5 rfl (by decide) (by omega) v388 y387 t393 _ _ _ (fun k_ => some k_ ≠ (.slice Ao102 t384.length co102 : Value).ownBlock ∧ some k_ ≠ (.slice Ao105 t390.length co105 : Value).ownBlock ∧ some k_ ≠ (.slice Ao108 t393.length co108 : Value).ownBlock) (fun _ => False) rfl rfl ?aO ?aR (fun _ _ h => h) (fun _ h => h.elim) ?aF ?aB ?aS ?aL ?_; (case aR => exact sc_ (Kd.R_reads' HO395.out).2.2); (case aB => exact (bl1_ HB GE303)); (case aF => exact (fun k_ hk => ⟨Kd.fresh' (Kd.R_lt (kr_ HO386)) k_ hk, Kd.fresh' (Kd.R_lt (kr_ HO392)) k_ hk, Kd.fresh' (Kd.R_lt (kr_ HO395)) k_ hk⟩)); (case aO => exact (by (with_reducible repeat (first | apply Kd.R_alloc | apply Kd.R_drewN | apply Kd.R_drew)); exact Kd.R_mono HO389.out (fun _ hk => ⟨hk.1.1, ⟨hk.1.2, hk.2⟩⟩))); (case aS => exact (below_size (bl1_ HB GE303))); (case aL => have := LMc95.out; omega); intro v397 w107 ho hb hg hat; rw [← Ny396.out] at ho; have n0_ := Aside0.mk (blk_grown (g := gb303) (bk_ BK303) hg (Kd.R_ne HO389.out BK303.out (by decide))); have n1_ := Aside0.mk (Kd.R_over' (kr_ HO383) (Kd.R_typed (kr_ HO389)) (by decide) hg); have n2_ := Aside0.mk (Kd.R_after (ok := (fun k_ => some k_ ≠ (.slice Ao105 t390.length co105 : Value).ownBlock ∧ some k_ ≠ (.slice Ao108 t393.length co108 : Value).ownBlock)) (by (with_reducible repeat (first | apply Kd.R_alloc | apply Kd.R_drewN | apply Kd.R_drew)); exact Kd.R_mono HO386.out (fun _ hk => ⟨⟨hk.1.2, hk.2⟩, hk.1.1.2⟩)) hg hat); have n3_ := Aside0.mk (Kd.R_after (ok := (fun k_ => some k_ ≠ (.slice Ao102 t384.length co102 : Value).ownBlock ∧ some k_ ≠ (.slice Ao108 t393.length co108 : Value).ownBlock)) (by (with_reducible repeat (first | apply Kd.R_alloc | apply Kd.R_drewN | apply Kd.R_drew)); exact Kd.R_mono HO392.out (fun _ hk => ⟨⟨hk.1.1.2, hk.2⟩, hk.1.2⟩)) hg hat); have n4_ := Aside0.mk (Kd.R_after (ok := (fun k_ => some k_ ≠ (.slice Ao102 t384.length co102 : Value).ownBlock ∧ some k_ ≠ (.slice Ao105 t390.length co105 : Value).ownBlock)) (by (with_reducible repeat (first | apply Kd.R_alloc | apply Kd.R_drewN | apply Kd.R_drew)); exact Kd.R_mono HO395.out (fun _ hk => ⟨⟨hk.1.1.2, hk.2⟩, hk.1.2⟩)) hg hat); have n5_ := Aside0.mk (hb); have n6_ := Aside0.mk (ho); clear BK303; clear HO383; clear HO386; clear HO392; clear HO395; clear HB; clear HO389; have BK303 := n0_; have HO383 := n1_; have HO386 := n2_; have HO392 := n3_; have HO395 := n4_; have HB := n5_; have HO398 := n6_; clear n0_ n1_ n2_ n3_ n4_ n5_ n6_; clear ho hb hg hat))
           go_ret
           exact ⟨_, er_, by (with_reducible repeat (first | apply Kd.R_alloc | apply Kd.R_drewN | apply Kd.R_drew)); exact Kd.R_mono HO398.out (fun _ hk => trivial), bl1_ HB GE303⟩
          ·rw [if_neg c95] at H
           exact absurd H (by simp)
         ·rw [if_neg c92] at H
          exact absurd H (by simp)
end Go.Proofs.Ytlalpooiegganaa.PG
end

section
namespace Go.Proofs.Ytlalpooiegganaa.PG
open Go.RowKit Go.Proofs.YtlalpooiegganaaW.PrintWords Go.Proofs.YtlalpooiegganaaW.PrintLast Go.Proofs.YtlalpooiegganaaW.PrintMore
attribute [local go_sem] max2_int min2_int max_two min_two max_three min_three max_four min_four   
set_option linter.unusedVariables false
set_option linter.unusedSimpArgs false
open Go.Proofs.Ytlalpooiegganaa.Ext Go.Proofs.Ytlalpooiegganaa.PP Go.Proofs.Ytlalpooiegganaa.ExtF Go.Proofs.Ytlalpooiegganaa.ExtM
mutual
def basculeref03_AnswerBytes.j0 : Nat → List Int → Int → Bool → Int → Int → Int → List Int → Int → Int → Int → List Int → Int → Option (List Int)
 | 0, _, _, _, _, _, _, _, _, _, _, _, _ => none
 | k + 1, x5, x22, x23, x400000, x400001, x400002, x400003, x400004, x400005, x400006, x401000, x401001 => if x23 = true then ((basculeref01_Pack.f k x401000).bind fun t407 => ((basculeref03_counted.f t407).bind fun t410 => (if x5.length + t410.length < 140737488355328 then (some (x5 ++ t410)) else (none)))) else (if x22 = 3 then (basculeref03_AnswerBytes.j1 k x5 x22 (x22 == 3) x400000 x400001 x400002 x400003 x400004 x400005 x400006 x401000 x401001) else (if x22 = 4 then (basculeref03_AnswerBytes.j1 k x5 x22 (x22 == 4) x400000 x400001 x400002 x400003 x400004 x400005 x400006 x401000 x401001) else (basculeref03_AnswerBytes.j1 k x5 x22 (x22 == 23) x400000 x400001 x400002 x400003 x400004 x400005 x400006 x401000 x401001)))
def basculeref03_AnswerBytes.j1 : Nat → List Int → Int → Bool → Int → Int → Int → List Int → Int → Int → Int → List Int → Int → Option (List Int)
 | 0, _, _, _, _, _, _, _, _, _, _, _, _ => none
 | k + 1, x5, x22, x33, x400000, x400001, x400002, x400003, x400004, x400005, x400006, x401000, x401001 => if x33 = true then ((basculeref03_lay.f k x401000).bind fun t416 => ((basculeref03_counted.f t416).bind fun t419 => (if x5.length + t419.length < 140737488355328 then (some (x5 ++ t419)) else (none)))) else (if x22 = 15 then (basculeref03_AnswerBytes.j2 k x5 (x22 == 15) x400000 x400001 x400002 x400003 x400004 x400005 x400006) else (basculeref03_AnswerBytes.j2 k x5 (x22 == 16) x400000 x400001 x400002 x400003 x400004 x400005 x400006))
def basculeref03_AnswerBytes.j2 : Nat → List Int → Bool → Int → Int → Int → List Int → Int → Int → Int → Option (List Int)
 | 0, _, _, _, _, _, _, _, _, _ => none
 | k + 1, x5, x44, x400000, x400001, x400002, x400003, x400004, x400005, x400006 => if x44 = true then ((basculeref03_lay.f k (([x400001, x400002] : List Int))).bind fun t428 => (if x5.length + t428.length < 140737488355328 then (some (x5 ++ t428)) else (none))) else ((basculeref03_Bytes.f k x400000 x400001 x400002 x400003 x400004 x400005 x400006).bind fun t434 => (some t434))
end
def basculeref03_AnswerBytes.f (k : Nat) (a0_0 : Int) (a0_1 : Int) (a0_2 : Int) (l0_3 : List Int) (a0_4 : Int) (a0_5 : Int) (a0_6 : Int) (l1_0 : List Int) (a1_1 : Int) : Option (List Int) := if a1_1 = 0 then ((some (([(a0_0) % 256] : List Int) : List Int)).bind fun y404 => (if a0_0 = 1 then (basculeref03_AnswerBytes.j0 k y404 a0_0 (a0_0 == 1) a0_0 a0_1 a0_2 l0_3 a0_4 a0_5 a0_6 l1_0 a1_1) else (basculeref03_AnswerBytes.j0 k y404 a0_0 (a0_0 == 2) a0_0 a0_1 a0_2 l0_3 a0_4 a0_5 a0_6 l1_0 a1_1))) else (some (([(wrap64 (a0_0 + 128)) % 256, (a1_1) % 256] : List Int)))
theorem basculeref03_AnswerBytes.mono_l : ∀ k, (∀ y0 y1 y2 y3 y4 y5 y6 y7 y8 y9 y10 y11, LeO (basculeref03_AnswerBytes.j0 k y0 y1 y2 y3 y4 y5 y6 y7 y8 y9 y10 y11) (basculeref03_AnswerBytes.j0 (k + 1) y0 y1 y2 y3 y4 y5 y6 y7 y8 y9 y10 y11)) ∧ (∀ y0 y1 y2 y3 y4 y5 y6 y7 y8 y9 y10 y11, LeO (basculeref03_AnswerBytes.j1 k y0 y1 y2 y3 y4 y5 y6 y7 y8 y9 y10 y11) (basculeref03_AnswerBytes.j1 (k + 1) y0 y1 y2 y3 y4 y5 y6 y7 y8 y9 y10 y11)) ∧ (∀ y0 y1 y2 y3 y4 y5 y6 y7 y8, LeO (basculeref03_AnswerBytes.j2 k y0 y1 y2 y3 y4 y5 y6 y7 y8) (basculeref03_AnswerBytes.j2 (k + 1) y0 y1 y2 y3 y4 y5 y6 y7 y8))
 | 0 => ⟨fun _ _ _ _ _ _ _ _ _ _ _ _ r h => by simp [basculeref03_AnswerBytes.j0] at h, fun _ _ _ _ _ _ _ _ _ _ _ _ r h => by simp [basculeref03_AnswerBytes.j1] at h, fun _ _ _ _ _ _ _ _ _ r h => by simp [basculeref03_AnswerBytes.j2] at h⟩
 | k + 1 => by
  obtain ⟨ih0, ih1, ih2⟩ := basculeref03_AnswerBytes.mono_l k
  refine ⟨?_, ?_, ?_⟩
  ·intro y0 y1 y2 y3 y4 y5 y6 y7 y8 y9 y10 y11
   unfold basculeref03_AnswerBytes.j0
   repeat' first
   | (with_reducible exact ih0 _ _ _ _ _ _ _ _ _ _ _ _)
   | (with_reducible exact ih1 _ _ _ _ _ _ _ _ _ _ _ _)
   | (with_reducible exact ih2 _ _ _ _ _ _ _ _ _)
   | (with_reducible exact basculeref01_Pack.mono _ _)
   | (with_reducible exact basculeref03_Bytes.mono _ _ _ _ _ _ _ _)
   | (with_reducible exact basculeref03_lay.mono _ _)
   | (with_reducible exact LeO.refl _)
   | (with_reducible exact LeO.none _)
   | (with_reducible refine LeO.ite ?_ ?_)
   | (with_reducible refine LeO.bind ?_ (fun _ => ?_))
   | exact ih0 _ _ _ _ _ _ _ _ _ _ _ _
   | exact ih1 _ _ _ _ _ _ _ _ _ _ _ _
   | exact ih2 _ _ _ _ _ _ _ _ _
   | exact basculeref01_Pack.mono _ _
   | exact basculeref03_Bytes.mono _ _ _ _ _ _ _ _
   | exact basculeref03_lay.mono _ _
   | exact LeO.none _
   | refine LeO.ite ?_ ?_
   | refine LeO.bind ?_ (fun _ => ?_)
  ·intro y0 y1 y2 y3 y4 y5 y6 y7 y8 y9 y10 y11
   unfold basculeref03_AnswerBytes.j1
   repeat' first
   | (with_reducible exact ih0 _ _ _ _ _ _ _ _ _ _ _ _)
   | (with_reducible exact ih1 _ _ _ _ _ _ _ _ _ _ _ _)
   | (with_reducible exact ih2 _ _ _ _ _ _ _ _ _)
   | (with_reducible exact basculeref01_Pack.mono _ _)
   | (with_reducible exact basculeref03_Bytes.mono _ _ _ _ _ _ _ _)
   | (with_reducible exact basculeref03_lay.mono _ _)
   | (with_reducible exact LeO.refl _)
   | (with_reducible exact LeO.none _)
   | (with_reducible refine LeO.ite ?_ ?_)
   | (with_reducible refine LeO.bind ?_ (fun _ => ?_))
   | exact ih0 _ _ _ _ _ _ _ _ _ _ _ _
   | exact ih1 _ _ _ _ _ _ _ _ _ _ _ _
   | exact ih2 _ _ _ _ _ _ _ _ _
   | exact basculeref01_Pack.mono _ _
   | exact basculeref03_Bytes.mono _ _ _ _ _ _ _ _
   | exact basculeref03_lay.mono _ _
   | exact LeO.none _
   | refine LeO.ite ?_ ?_
   | refine LeO.bind ?_ (fun _ => ?_)
  ·intro y0 y1 y2 y3 y4 y5 y6 y7 y8
   unfold basculeref03_AnswerBytes.j2
   repeat' first
   | (with_reducible exact ih0 _ _ _ _ _ _ _ _ _ _ _ _)
   | (with_reducible exact ih1 _ _ _ _ _ _ _ _ _ _ _ _)
   | (with_reducible exact ih2 _ _ _ _ _ _ _ _ _)
   | (with_reducible exact basculeref01_Pack.mono _ _)
   | (with_reducible exact basculeref03_Bytes.mono _ _ _ _ _ _ _ _)
   | (with_reducible exact basculeref03_lay.mono _ _)
   | (with_reducible exact LeO.refl _)
   | (with_reducible exact LeO.none _)
   | (with_reducible refine LeO.ite ?_ ?_)
   | (with_reducible refine LeO.bind ?_ (fun _ => ?_))
   | exact ih0 _ _ _ _ _ _ _ _ _ _ _ _
   | exact ih1 _ _ _ _ _ _ _ _ _ _ _ _
   | exact ih2 _ _ _ _ _ _ _ _ _
   | exact basculeref01_Pack.mono _ _
   | exact basculeref03_Bytes.mono _ _ _ _ _ _ _ _
   | exact basculeref03_lay.mono _ _
   | exact LeO.none _
   | refine LeO.ite ?_ ?_
   | refine LeO.bind ?_ (fun _ => ?_)
theorem basculeref03_AnswerBytes.mono : ∀ a0 a1 a2 a3 a4 a5 a6 a7 a8 k, LeO (basculeref03_AnswerBytes.f k a0 a1 a2 a3 a4 a5 a6 a7 a8) (basculeref03_AnswerBytes.f (k + 1) a0 a1 a2 a3 a4 a5 a6 a7 a8) := by
 intro a0 a1 a2 a3 a4 a5 a6 a7 a8 k
 obtain ⟨ih0, ih1, ih2⟩ := basculeref03_AnswerBytes.mono_l k
 unfold basculeref03_AnswerBytes.f
 repeat' first
  | (with_reducible exact ih0 _ _ _ _ _ _ _ _ _ _ _ _)
  | (with_reducible exact ih1 _ _ _ _ _ _ _ _ _ _ _ _)
  | (with_reducible exact ih2 _ _ _ _ _ _ _ _ _)
  | (with_reducible exact basculeref01_Pack.mono _ _)
  | (with_reducible exact basculeref03_Bytes.mono _ _ _ _ _ _ _ _)
  | (with_reducible exact basculeref03_lay.mono _ _)
  | (with_reducible exact LeO.refl _)
  | (with_reducible exact LeO.none _)
  | (with_reducible refine LeO.ite ?_ ?_)
  | (with_reducible refine LeO.bind ?_ (fun _ => ?_))
  | exact ih0 _ _ _ _ _ _ _ _ _ _ _ _
  | exact ih1 _ _ _ _ _ _ _ _ _ _ _ _
  | exact ih2 _ _ _ _ _ _ _ _ _
  | exact basculeref01_Pack.mono _ _
  | exact basculeref03_Bytes.mono _ _ _ _ _ _ _ _
  | exact basculeref03_lay.mono _ _
  | exact LeO.none _
  | refine LeO.ite ?_ ?_
  | refine LeO.bind ?_ (fun _ => ?_)
set_option maxHeartbeats 8000000 in
set_option maxRecDepth 100000 in
theorem basculeref03_AnswerBytes.calls (k : Nat) (a0_0 : Int) (a0_1 : Int) (a0_2 : Int) (A0_3 : Option Addr) (c0_3 : Nat) (l0_3 : List Int) (a0_4 : Int) (a0_5 : Int) (a0_6 : Int) (A1_0 : Option Addr) (c1_0 : Nat) (l1_0 : List Int) (a1_1 : Int) (r : List Int) (w : World) (hr0_3 : Kd.C (Kd.int .i64) w A0_3 l0_3.length l0_3) (hc0_3 : l0_3.length ≤ c0_3) (hr1_0 : Kd.C (Kd.int .i64) w A1_0 l1_0.length l1_0) (hc1_0 : l1_0.length ≤ c1_0) (h : basculeref03_AnswerBytes.f k a0_0 a0_1 a0_2 l0_3 a0_4 a0_5 a0_6 l1_0 a1_1 = some r) :
 Calls Try.prog 37 #[.agg #[.int .i64 a0_0, .int .i64 a0_1, .int .i64 a0_2, .slice A0_3 l0_3.length c0_3, .int .i64 a0_4, .int .i64 a0_5, .int .i64 a0_6], .agg #[.slice A1_0 l1_0.length c1_0, .int .i64 a1_1]] w fun e w' => ∃ v0_ : Value, e = .returned (v0_) ∧ Kd.R (Kd.int .u8) 5 w' w.heap.size (fun _ => True) v0_ r ∧ Below w.heap.size w w' := by
 have hu31 := Try.underlying31
 have hu46 := Try.underlying46
 have HR0_3 := Aside0.mk hr0_3
 have HC0_3 := Aside0.mk hc0_3
 clear hr0_3 hc0_3
 have HR1_0 := Aside0.mk hr1_0
 have HC1_0 := Aside0.mk hc1_0
 clear hr1_0 hc1_0
 have HB := Aside0.mk (Below.refl w.heap.size w)
 have H : (if a1_1 = 0 then ((some (([(a0_0) % 256] : List Int) : List Int)).bind fun y404 => (if a0_0 = 1 then (basculeref03_AnswerBytes.j0 k y404 a0_0 (a0_0 == 1) a0_0 a0_1 a0_2 l0_3 a0_4 a0_5 a0_6 l1_0 a1_1) else (basculeref03_AnswerBytes.j0 k y404 a0_0 (a0_0 == 2) a0_0 a0_1 a0_2 l0_3 a0_4 a0_5 a0_6 l1_0 a1_1))) else (some (([(wrap64 (a0_0 + 128)) % 256, (a1_1) % 256] : List Int)))) = some r := h
 clear h
 by_cases c3 : a1_1 = 0
 ·rw [if_pos c3] at H
  have c3b0 : (a1_1 == 0) = true := beq_iff_eq.mpr c3
  have c3b1 : (a1_1 != 0) = false := bne_eq_false_iff_eq.mpr c3
  clear c3
  obtain ⟨y404, hy404⟩ : ∃ y_ : List Int, y_ = (([(a0_0) % 256] : List Int)) := ⟨_, rfl⟩
  replace H : (if a0_0 = 1 then (basculeref03_AnswerBytes.j0 k y404 a0_0 (a0_0 == 1) a0_0 a0_1 a0_2 l0_3 a0_4 a0_5 a0_6 l1_0 a1_1) else (basculeref03_AnswerBytes.j0 k y404 a0_0 (a0_0 == 2) a0_0 a0_1 a0_2 l0_3 a0_4 a0_5 a0_6 l1_0 a1_1)) = some r := by first | (rw [hy404]; with_reducible exact H) | (have H2_ := (Option.bind_some _ _).symm.trans H; rw [hy404]; with_reducible exact H2_) | (have H2_ := (Option.bind_some _ _).symm.trans H; with_reducible exact H2_) | with_reducible exact H | (rw [hy404]; exact H) | exact H
  have Ny404 := Aside0.mk hy404
  clear hy404
  have HC4 := Aside0.mk H
  clear H
  go_enter Try.func37, Try.ntmps37
  go_upto_if 23 with (first | ((with_reducible refine gate_dst (N := 2) rfl ?_); refine bx_ (N := 2) (cs := #[.int .i64 a0_0, .int .i64 a0_1, .int .i64 a0_2, .slice A0_3 l0_3.length c0_3, .int .i64 a0_4, .int .i64 a0_5, .int .i64 a0_6]) (t := 31) ?_; intro gb399 hg w5 hbox hb; have n0_ := Aside0.mk (below_step (bl0_ HB) hb); have n1_ := Aside0.mk (hbox); have n2_ := Aside0.mk ((by rw [hg]; exact (below_size (bl0_ HB)) : w.heap.size ≤ gb399)); have n3_ := Aside0.mk ((by rw [hg]; exact (below_size (bl0_ HB)) : w.heap.size ≤ gb399)); clear HB; have HB := n0_; have BK399 := n1_; have GW399 := n2_; have GE399 := n3_; clear n0_ n1_ n2_ n3_; clear hb hbox hg) | ((with_reducible refine gate_dst (N := 3) rfl ?_); refine bx_ (N := 3) (cs := #[.slice A1_0 l1_0.length c1_0, .int .i64 a1_1]) (t := 46) ?_; intro gb400 hg w6 hbox hb; have n0_ := Aside0.mk (blk_below (g := gb399) (bk_ BK399) hb); have n1_ := Aside0.mk (below_step (bl1_ HB GE399) hb); have n2_ := Aside0.mk (hbox); have n3_ := Aside0.mk ((by rw [hg]; exact (below_size (bl1_ HB GE399)) : w.heap.size ≤ gb400)); have n4_ := Aside0.mk ((by rw [hg]; exact (below_size (bl1_ HB GE399)) : w.heap.size ≤ gb400)); have n5_ := Aside0.mk ((by rw [hg]; exact Nat.ne_of_lt (blk_lt (g := gb399) (bk_ BK399)) : gb399 ≠ gb400)); have n6_ := Aside0.mk ((by rw [hg]; exact Nat.ne_of_gt (blk_lt (g := gb399) (bk_ BK399)) : gb400 ≠ gb399)); clear BK399; clear HB; have BK399 := n0_; have HB := n1_; have BK400 := n2_; have GW400 := n3_; have GE400 := n4_; have NB399_400 := n5_; have NB400_399 := n6_; clear n0_ n1_ n2_ n3_ n4_ n5_ n6_; clear hb hbox hg; have hnb7 := NB400_399.out; have hnc7 := NB399_400.out; refine cz2_ BK400.out ?_; intro hcz8_0 hcz8_1 hfz8_0 hfz8_1; refine cz7_ BK399.out ?_; intro hcz9_0 hcz9_1 hcz9_2 hcz9_3 hcz9_4 hcz9_5 hcz9_6 hfz9_0 hfz9_1 hfz9_2 hfz9_3 hfz9_4 hfz9_5 hfz9_6) | ((with_reducible refine gate_dst (N := 20) rfl ?_); refine Kd.R_lit (Kd.int .u8) _ 5 ?hg (N := 20) ?hd (xs := ([(a0_0) % 256] : List Int)) (inner := [.int .u8 ((a0_0) % 256)]) (ok := fun _ => True) (okp := fun _ => True) ?hr ?hp (fun _ hk => hk) trivial (Below.refl _ _) (Nat.le_refl _) (by simp) ?_; (case hd => rfl); (case hg => rfl); (case hr => first | (go_simp; done) | (go_simp; rfl)); (case hp => exact (Reps.one (show Kd.M (Kd.int .u8) _ _ _ ((a0_0) % 256) [.int .u8 ((a0_0) % 256)] from rfl) (Reps.none _ _))); intro v405 w10 ho11 hb hg_ hnew_; clear hg_ hnew_; (first | rw [← Ny404.out] at ho11 | (simp only [Int.reduceToNat] at ho11; rw [← Ny404.out] at ho11)); have n0_ := Aside0.mk (Kd.R_lower ho11 (below_size (bl2_ HB GE399 GE400))); have n1_ := Aside0.mk (blk_below (g := gb399) (bk_ BK399) hb); have n2_ := Aside0.mk (blk_below (g := gb400) (bk_ BK400) hb); have n3_ := Aside0.mk (below_step (bl2_ HB GE399 GE400) hb); clear BK399; clear BK400; clear HB; have HO406 := n0_; have BK399 := n1_; have BK400 := n2_; have HB := n3_; clear n0_ n1_ n2_ n3_; clear hb ho11; refine cz7_ BK399.out ?_; intro hcz12_0 hcz12_1 hcz12_2 hcz12_3 hcz12_4 hcz12_5 hcz12_6 hfz12_0 hfz12_1 hfz12_2 hfz12_3 hfz12_4 hfz12_5 hfz12_6))
  (try simp only [Act.put, List.setIfInBounds_toArray, List.set_cons_zero, List.set_cons_succ])
  go_cut [23] (fun v23 wc => ∃ (kq : Nat) (x23_3 : Bool), v23 = .bool x23_3 ∧ Aside0 (basculeref03_AnswerBytes.j0 kq y404 a0_0 x23_3 a0_0 a0_1 a0_2 l0_3 a0_4 a0_5 a0_6 l1_0 a1_1 = some r) ∧ Aside0 (kq ≤ k) ∧ Aside0 (Kd.R (Kd.int .u8) 5 wc w.heap.size (fun _ => True) v405 y404) ∧ Aside0 (wc.heap[gb399]? = some (.cells #[.int .i64 a0_0, .int .i64 a0_1, .int .i64 a0_2, (.slice A0_3 l0_3.length c0_3), .int .i64 a0_4, .int .i64 a0_5, .int .i64 a0_6] 31 (0, 0))) ∧ Aside0 (wc.heap[gb400]? = some (.cells #[(.slice A1_0 l1_0.length c1_0), .int .i64 a1_1] 46 (0, 0))) ∧ Aside0 (Below w.heap.size w wc))
  case first =>
   have H := HC4.out
   clear HC4
   by_cases c13 : a0_0 = 1
   ·rw [if_pos c13] at H
    have c13b0 : (a0_0 == 1) = true := beq_iff_eq.mpr c13
    have c13b1 : (a0_0 != 1) = false := bne_eq_false_iff_eq.mpr c13
    clear c13
    (first | rw [c13b0] | (simp only [i64_w, i32_w]; rw [c13b0]) | skip)
    have H' := Aside0.mk H
    clear H
    go_wp2
    go_meet
    case rel => exact ⟨_, ((a0_0 == 1)), (by first | rfl | (simp; done) | (simp [*]; done)), H', ⟨by first | omega | exact Nat.le_refl _⟩, ⟨kr_ HO406⟩, ⟨bk_ BK399⟩, ⟨bk_ BK400⟩, ⟨bl2_ HB GE399 GE400⟩⟩
   ·rw [if_neg c13] at H
    have c13b0 : (a0_0 == 1) = false := beq_eq_false_iff_ne.mpr c13
    have c13b1 : (a0_0 != 1) = true := bne_iff_ne.mpr c13
    (first | rw [c13b0] | (simp only [i64_w, i32_w]; rw [c13b0]) | skip)
    have H' := Aside0.mk H
    clear H
    go_wp2
    go_meet
    case rel => exact ⟨_, ((a0_0 == 2)), (by first | rfl | (simp; done) | (simp [*]; done)), H', ⟨by first | omega | exact Nat.le_refl _⟩, ⟨kr_ HO406⟩, ⟨bk_ BK399⟩, ⟨bk_ BK400⟩, ⟨bl2_ HB GE399 GE400⟩⟩
  case rest =>
   clear HC4
   try clear c1
   try clear p2
   try clear c3
   try clear c3b0
   try clear c3b1
   try clear p6
   try clear c7
   try clear c13
   try clear c13b0
   try clear c13b1
   try clear hcz12_0 hcz12_1 hcz12_2 hcz12_3 hcz12_4 hcz12_5 hcz12_6
   try clear hcz8_0 hcz8_1
   try clear hcz9_0 hcz9_1 hcz9_2 hcz9_3 hcz9_4 hcz9_5 hcz9_6
   try clear hfz12_0 hfz12_1 hfz12_2 hfz12_3 hfz12_4 hfz12_5 hfz12_6
   try clear hfz8_0 hfz8_1
   try clear hfz9_0 hfz9_1 hfz9_2 hfz9_3 hfz9_4 hfz9_5 hfz9_6
   obtain ⟨kq, x23_3, rfl, HA, HJ3, HO_5, BK399, BK400, HB⟩ := hcut
   cases kq with
   | zero => exact absurd HA.out (by simp [basculeref03_AnswerBytes.j0])
   | succ kj3 =>
    have H := HA.out
    clear HA
    simp only [basculeref03_AnswerBytes.j0] at H
    by_cases c14 : x23_3 = true
    ·subst c14
     have H1 : ((basculeref01_Pack.f kj3 l1_0).bind fun t407 => ((basculeref03_counted.f t407).bind fun t410 => (if y404.length + t410.length < 140737488355328 then (some (y404 ++ t410)) else (none)))) = some r := by rw [if_pos rfl] at H; exact H
     clear H
     have H := H1
     clear H1
     replace H := Option.bind_eq_some_iff.mp H
     obtain ⟨t407, A150, H⟩ := H
     replace H : ((basculeref03_counted.f t407).bind fun t410 => (if y404.length + t410.length < 140737488355328 then (some (y404 ++ t410)) else (none))) = some r := H
     have A15 := Aside0.mk A150
     clear A150
     replace H := Option.bind_eq_some_iff.mp H
     obtain ⟨t410, A160, H⟩ := H
     replace H : (if y404.length + t410.length < 140737488355328 then (some (y404 ++ t410)) else (none)) = some r := H
     have A16 := Aside0.mk A160
     clear A160
     by_cases c17 : y404.length + t410.length < 140737488355328
     ·rw [if_pos c17] at H
      have LMc17 := Aside0.mk c17
      clear c17
      obtain ⟨y413, hy413⟩ : ∃ y_ : List Int, y_ = (y404 ++ t410) := ⟨_, rfl⟩
      replace H : (some y413) = some r := by first | (rw [hy413]; with_reducible exact H) | (have H2_ := (Option.bind_some _ _).symm.trans H; rw [hy413]; with_reducible exact H2_) | (have H2_ := (Option.bind_some _ _).symm.trans H; with_reducible exact H2_) | with_reducible exact H | (rw [hy413]; exact H) | exact H
      have Ny413 := Aside0.mk hy413
      clear hy413
      obtain rfl := Option.some.inj H
      have hnb18 := NB400_399.out
      have hnc18 := NB399_400.out
      refine cz2_ BK400.out ?_; intro hcz19_0 hcz19_1 hfz19_0 hfz19_1
      go_wp2_with (first | ((with_reducible refine gate_callee (f := 53) rfl ?_); refine goesL_ (some 29) rfl rfl Try.func53 (by kernel_rfl) rfl #[.slice A1_0 l1_0.length c1_0] rfl ar_ ?_; (with_reducible refine (basculeref01_Pack.calls kj3 _ _ l1_0 t407 _ ?side1 ?side2 A15.out).mono ?_); (case side1 => exact sc_ (Kd.C_below HR1_0.out HB.out)); (case side2 => exact HC1_0.out); rintro e w20 ⟨v408, rfl, ho0, hb⟩; refine ⟨_, rfl, ?_⟩; have n0_ := Aside0.mk (Kd.R_elder' (kr_ HO_5) (Kd.R_base ho0) hb); have n1_ := Aside0.mk (Kd.R_lower (Kd.R_new' ho0 (Kd.R_lt (kr_ HO_5))) (below_size (bl2_ HB GE399 GE400))); have n2_ := Aside0.mk (blk_below (g := gb399) (bk_ BK399) hb); have n3_ := Aside0.mk (blk_below (g := gb400) (bk_ BK400) hb); have n4_ := Aside0.mk (below_step (bl2_ HB GE399 GE400) hb); clear HO_5; clear BK399; clear BK400; clear HB; have HO_5 := n0_; have HO409 := n1_; have BK399 := n2_; have BK400 := n3_; have HB := n4_; clear n0_ n1_ n2_ n3_ n4_; (try clear hb); (try clear hb2); (try clear hk); (try clear hi); (try clear ho0); obtain ⟨Ao21, co21, eo21⟩ := Kd.R_slice HO409.out; subst eo21) | ((with_reducible refine gate_callee (f := 52) rfl ?_); refine goesL_ (some 30) rfl rfl Try.func52 (by kernel_rfl) rfl #[.slice Ao21 t407.length co21] rfl ar_ ?_; (with_reducible refine (basculeref03_counted.calls _ _ t407 t410 _ ?side1 ?side2 A16.out).mono ?_); (case side1 => exact sc_ (Kd.R_reads' HO409.out).2.2); (case side2 => exact (Kd.R_reads' HO409.out).2.1); rintro e w22 ⟨v411, rfl, ho0, hb⟩; refine ⟨_, rfl, ?_⟩; have n0_ := Aside0.mk (Kd.R_elder' (kr_ HO_5) (Kd.R_base ho0) hb); have n1_ := Aside0.mk (Kd.R_elder' (kr_ HO409) (Kd.R_base ho0) hb); have n2_ := Aside0.mk (Kd.R_lower (Kd.R_new' (Kd.R_new' ho0 (Kd.R_lt (kr_ HO_5))) (Kd.R_lt (kr_ HO409))) (below_size (bl2_ HB GE399 GE400))); have n3_ := Aside0.mk (blk_below (g := gb399) (bk_ BK399) hb); have n4_ := Aside0.mk (blk_below (g := gb400) (bk_ BK400) hb); have n5_ := Aside0.mk (below_step (bl2_ HB GE399 GE400) hb); clear HO_5; clear HO409; clear BK399; clear BK400; clear HB; have HO_5 := n0_; have HO409 := n1_; have HO412 := n2_; have BK399 := n3_; have BK400 := n4_; have HB := n5_; clear n0_ n1_ n2_ n3_ n4_ n5_; (try clear hb); (try clear hb2); (try clear hk); (try clear hi); (try clear ho0); obtain ⟨Ao24, co24, eo24⟩ := Kd.R_slice HO412.out; subst eo24) | ((with_reducible refine gate_builtin (b := .append) (xs := #[.tmp 26, .tmp 30]) rfl ?_); at_builtin; refine Kd.R_append_rows (Kd.int .u8) (w0 := w) w.heap.size rfl (.tmp 26) (.tmp 30) 43 5 (.int .u8 0) 1 rfl Try.underlying43 info5 rfl (by decide) (by omega) v405 y404 t410 _ _ _ (fun k_ => some k_ ≠ (.slice Ao21 t407.length co21 : Value).ownBlock ∧ some k_ ≠ (.slice Ao24 t410.length co24 : Value).ownBlock) (fun _ => False) rfl rfl ?aO ?aR (fun _ _ h => h) (fun _ h => h.elim) ?aF ?aB ?aS ?aL ?_; (case aR => exact sc_ (Kd.R_reads' HO412.out).2.2); (case aB => exact (bl2_ HB GE399 GE400)); (case aF => exact (fun k_ hk => ⟨Kd.fresh' (Kd.R_lt (kr_ HO409)) k_ hk, Kd.fresh' (Kd.R_lt (kr_ HO412)) k_ hk⟩)); (case aO => exact (by (with_reducible repeat (first | apply Kd.R_alloc | apply Kd.R_drewN | apply Kd.R_drew)); exact Kd.R_mono HO_5.out (fun _ hk => ⟨hk.1.2, hk.2⟩))); (case aS => exact (below_size (bl2_ HB GE399 GE400))); (case aL => have := LMc17.out; omega); intro v414 w23 ho hb hg hat; rw [← Ny413.out] at ho; have n0_ := Aside0.mk (blk_grown (g := gb399) (bk_ BK399) hg (Kd.R_ne HO_5.out BK399.out (by decide))); have n1_ := Aside0.mk (blk_grown (g := gb400) (bk_ BK400) hg (Kd.R_ne HO_5.out BK400.out (by decide))); have n2_ := Aside0.mk (Kd.R_after (ok := (fun k_ => some k_ ≠ (.slice Ao24 t410.length co24 : Value).ownBlock)) (by (with_reducible repeat (first | apply Kd.R_alloc | apply Kd.R_drewN | apply Kd.R_drew)); exact Kd.R_mono HO409.out (fun _ hk => ⟨hk.2, hk.1.2⟩)) hg hat); have n3_ := Aside0.mk (Kd.R_after (ok := (fun k_ => some k_ ≠ (.slice Ao21 t407.length co21 : Value).ownBlock)) (by (with_reducible repeat (first | apply Kd.R_alloc | apply Kd.R_drewN | apply Kd.R_drew)); exact Kd.R_mono HO412.out (fun _ hk => ⟨hk.2, hk.1.2⟩)) hg hat); have n4_ := Aside0.mk (hb); have n5_ := Aside0.mk (ho); clear BK399; clear BK400; clear HO409; clear HO412; clear HB; clear HO_5; have BK399 := n0_; have BK400 := n1_; have HO409 := n2_; have HO412 := n3_; have HB := n4_; have HO415 := n5_; clear n0_ n1_ n2_ n3_ n4_ n5_; clear ho hb hg hat))
      go_ret
      exact ⟨_, er_, by (with_reducible repeat (first | apply Kd.R_alloc | apply Kd.R_drewN | apply Kd.R_drew)); exact Kd.R_mono HO415.out (fun _ hk => trivial), bl2_ HB GE399 GE400⟩
     ·rw [if_neg c17] at H
      exact absurd H (by simp)
    ·replace c14 := Bool.eq_false_iff.mpr c14
     subst c14
     have H1 : (if a0_0 = 3 then (basculeref03_AnswerBytes.j1 kj3 y404 a0_0 (a0_0 == 3) a0_0 a0_1 a0_2 l0_3 a0_4 a0_5 a0_6 l1_0 a1_1) else (if a0_0 = 4 then (basculeref03_AnswerBytes.j1 kj3 y404 a0_0 (a0_0 == 4) a0_0 a0_1 a0_2 l0_3 a0_4 a0_5 a0_6 l1_0 a1_1) else (basculeref03_AnswerBytes.j1 kj3 y404 a0_0 (a0_0 == 23) a0_0 a0_1 a0_2 l0_3 a0_4 a0_5 a0_6 l1_0 a1_1))) = some r := by rw [if_neg (show ¬ (false = true) by decide)] at H; exact H
     clear H
     have H := H1
     clear H1
     have HC25 := Aside0.mk H
     clear H
     go_upto_if 33 with (fail)
     go_cut [33] (fun v33 wc => ∃ (kq : Nat) (x33_24 : Bool), v33 = .bool x33_24 ∧ Aside0 (basculeref03_AnswerBytes.j1 kq y404 a0_0 x33_24 a0_0 a0_1 a0_2 l0_3 a0_4 a0_5 a0_6 l1_0 a1_1 = some r) ∧ Aside0 (kq ≤ kj3) ∧ Aside0 (Kd.R (Kd.int .u8) 5 wc w.heap.size (fun _ => True) v405 y404) ∧ Aside0 (wc.heap[gb399]? = some (.cells #[.int .i64 a0_0, .int .i64 a0_1, .int .i64 a0_2, (.slice A0_3 l0_3.length c0_3), .int .i64 a0_4, .int .i64 a0_5, .int .i64 a0_6] 31 (0, 0))) ∧ Aside0 (wc.heap[gb400]? = some (.cells #[(.slice A1_0 l1_0.length c1_0), .int .i64 a1_1] 46 (0, 0))) ∧ Aside0 (Below w.heap.size w wc))
     case first =>
      have H := HC25.out
      clear HC25
      by_cases c26 : a0_0 = 3
      ·rw [if_pos c26] at H
       have c26b0 : (a0_0 == 3) = true := beq_iff_eq.mpr c26
       have c26b1 : (a0_0 != 3) = false := bne_eq_false_iff_eq.mpr c26
       clear c26
       (first | rw [c26b0] | (simp only [i64_w, i32_w]; rw [c26b0]) | skip)
       have H' := Aside0.mk H
       clear H
       go_wp2
       go_meet
       case rel => exact ⟨_, ((a0_0 == 3)), (by first | rfl | (simp; done) | (simp [*]; done)), H', ⟨by have := HJ3.out; first | omega | exact Nat.le_refl _⟩, ⟨kr_ HO_5⟩, ⟨bk_ BK399⟩, ⟨bk_ BK400⟩, ⟨bl2_ HB GE399 GE400⟩⟩
      ·rw [if_neg c26] at H
       have c26b0 : (a0_0 == 3) = false := beq_eq_false_iff_ne.mpr c26
       have c26b1 : (a0_0 != 3) = true := bne_iff_ne.mpr c26
       (first | rw [c26b0] | (simp only [i64_w, i32_w]; rw [c26b0]) | skip)
       by_cases c27 : a0_0 = 4
       ·rw [if_pos c27] at H
        have c27b0 : (a0_0 == 4) = true := beq_iff_eq.mpr c27
        have c27b1 : (a0_0 != 4) = false := bne_eq_false_iff_eq.mpr c27
        clear c27
        have H' := Aside0.mk H
        clear H
        go_wp2
        go_meet
        case rel => exact ⟨_, ((a0_0 == 4)), (by first | rfl | (simp; done) | (simp [*]; done)), H', ⟨by have := HJ3.out; first | omega | exact Nat.le_refl _⟩, ⟨kr_ HO_5⟩, ⟨bk_ BK399⟩, ⟨bk_ BK400⟩, ⟨bl2_ HB GE399 GE400⟩⟩
       ·rw [if_neg c27] at H
        have c27b0 : (a0_0 == 4) = false := beq_eq_false_iff_ne.mpr c27
        have c27b1 : (a0_0 != 4) = true := bne_iff_ne.mpr c27
        have H' := Aside0.mk H
        clear H
        go_wp2
        go_meet
        case rel => exact ⟨_, ((a0_0 == 23)), (by first | rfl | (simp; done) | (simp [*]; done)), H', ⟨by have := HJ3.out; first | omega | exact Nat.le_refl _⟩, ⟨kr_ HO_5⟩, ⟨bk_ BK399⟩, ⟨bk_ BK400⟩, ⟨bl2_ HB GE399 GE400⟩⟩
     case rest =>
      clear HC25
      try clear c1
      try clear c2
      try clear p2
      try clear c3
      try clear c3b0
      try clear c3b1
      try clear c5
      try clear p6
      try clear c7
      try clear c13
      try clear c13b0
      try clear c13b1
      try clear c14
      try clear c17
      try clear c18
      try clear c26
      try clear c26b0
      try clear c26b1
      try clear c27
      try clear c27b0
      try clear c27b1
      try clear hcz12_0 hcz12_1 hcz12_2 hcz12_3 hcz12_4 hcz12_5 hcz12_6
      try clear hcz19_0 hcz19_1
      try clear hcz8_0 hcz8_1
      try clear hcz9_0 hcz9_1 hcz9_2 hcz9_3 hcz9_4 hcz9_5 hcz9_6
      try clear hfz12_0 hfz12_1 hfz12_2 hfz12_3 hfz12_4 hfz12_5 hfz12_6
      try clear hfz19_0 hfz19_1
      try clear hfz8_0 hfz8_1
      try clear hfz9_0 hfz9_1 hfz9_2 hfz9_3 hfz9_4 hfz9_5 hfz9_6
      try clear p2
      try clear p6
      obtain ⟨kq, x33_24, rfl, HA, HJ24, HO_5, BK399, BK400, HB⟩ := hcut
      cases kq with
      | zero => exact absurd HA.out (by simp [basculeref03_AnswerBytes.j1])
      | succ kj24 =>
       have H := HA.out
       clear HA
       simp only [basculeref03_AnswerBytes.j1] at H
       by_cases c28 : x33_24 = true
       ·subst c28
        have H1 : ((basculeref03_lay.f kj24 l1_0).bind fun t416 => ((basculeref03_counted.f t416).bind fun t419 => (if y404.length + t419.length < 140737488355328 then (some (y404 ++ t419)) else (none)))) = some r := by rw [if_pos rfl] at H; exact H
        clear H
        have H := H1
        clear H1
        replace H := Option.bind_eq_some_iff.mp H
        obtain ⟨t416, A290, H⟩ := H
        replace H : ((basculeref03_counted.f t416).bind fun t419 => (if y404.length + t419.length < 140737488355328 then (some (y404 ++ t419)) else (none))) = some r := H
        have A29 := Aside0.mk A290
        clear A290
        replace H := Option.bind_eq_some_iff.mp H
        obtain ⟨t419, A300, H⟩ := H
        replace H : (if y404.length + t419.length < 140737488355328 then (some (y404 ++ t419)) else (none)) = some r := H
        have A30 := Aside0.mk A300
        clear A300
        by_cases c31 : y404.length + t419.length < 140737488355328
        ·rw [if_pos c31] at H
         have LMc31 := Aside0.mk c31
         clear c31
         obtain ⟨y422, hy422⟩ : ∃ y_ : List Int, y_ = (y404 ++ t419) := ⟨_, rfl⟩
         replace H : (some y422) = some r := by first | (rw [hy422]; with_reducible exact H) | (have H2_ := (Option.bind_some _ _).symm.trans H; rw [hy422]; with_reducible exact H2_) | (have H2_ := (Option.bind_some _ _).symm.trans H; with_reducible exact H2_) | with_reducible exact H | (rw [hy422]; exact H) | exact H
         have Ny422 := Aside0.mk hy422
         clear hy422
         obtain rfl := Option.some.inj H
         have hnb32 := NB400_399.out
         have hnc32 := NB399_400.out
         refine cz2_ BK400.out ?_; intro hcz33_0 hcz33_1 hfz33_0 hfz33_1
         go_wp2_with (first | ((with_reducible refine gate_callee (f := 54) rfl ?_); refine goesL_ (some 40) rfl rfl Try.func54 (by kernel_rfl) rfl #[.slice A1_0 l1_0.length c1_0] rfl ar_ ?_; (with_reducible refine (basculeref03_lay.calls kj24 _ _ l1_0 t416 _ ?side1 ?side2 A29.out).mono ?_); (case side1 => exact sc_ (Kd.C_below HR1_0.out HB.out)); (case side2 => exact HC1_0.out); rintro e w34 ⟨v417, rfl, ho0, hb⟩; refine ⟨_, rfl, ?_⟩; have n0_ := Aside0.mk (Kd.R_elder' (kr_ HO_5) (Kd.R_base ho0) hb); have n1_ := Aside0.mk (Kd.R_lower (Kd.R_new' ho0 (Kd.R_lt (kr_ HO_5))) (below_size (bl2_ HB GE399 GE400))); have n2_ := Aside0.mk (blk_below (g := gb399) (bk_ BK399) hb); have n3_ := Aside0.mk (blk_below (g := gb400) (bk_ BK400) hb); have n4_ := Aside0.mk (below_step (bl2_ HB GE399 GE400) hb); clear HO_5; clear BK399; clear BK400; clear HB; have HO_5 := n0_; have HO418 := n1_; have BK399 := n2_; have BK400 := n3_; have HB := n4_; clear n0_ n1_ n2_ n3_ n4_; (try clear hb); (try clear hb2); (try clear hk); (try clear hi); (try clear ho0); obtain ⟨Ao35, co35, eo35⟩ := Kd.R_slice HO418.out; subst eo35) | ((with_reducible refine gate_callee (f := 52) rfl ?_); refine goesL_ (some 41) rfl rfl Try.func52 (by kernel_rfl) rfl #[.slice Ao35 t416.length co35] rfl ar_ ?_; (with_reducible refine (basculeref03_counted.calls _ _ t416 t419 _ ?side1 ?side2 A30.out).mono ?_); (case side1 => exact sc_ (Kd.R_reads' HO418.out).2.2); (case side2 => exact (Kd.R_reads' HO418.out).2.1); rintro e w36 ⟨v420, rfl, ho0, hb⟩; refine ⟨_, rfl, ?_⟩; have n0_ := Aside0.mk (Kd.R_elder' (kr_ HO_5) (Kd.R_base ho0) hb); have n1_ := Aside0.mk (Kd.R_elder' (kr_ HO418) (Kd.R_base ho0) hb); have n2_ := Aside0.mk (Kd.R_lower (Kd.R_new' (Kd.R_new' ho0 (Kd.R_lt (kr_ HO_5))) (Kd.R_lt (kr_ HO418))) (below_size (bl2_ HB GE399 GE400))); have n3_ := Aside0.mk (blk_below (g := gb399) (bk_ BK399) hb); have n4_ := Aside0.mk (blk_below (g := gb400) (bk_ BK400) hb); have n5_ := Aside0.mk (below_step (bl2_ HB GE399 GE400) hb); clear HO_5; clear HO418; clear BK399; clear BK400; clear HB; have HO_5 := n0_; have HO418 := n1_; have HO421 := n2_; have BK399 := n3_; have BK400 := n4_; have HB := n5_; clear n0_ n1_ n2_ n3_ n4_ n5_; (try clear hb); (try clear hb2); (try clear hk); (try clear hi); (try clear ho0); obtain ⟨Ao38, co38, eo38⟩ := Kd.R_slice HO421.out; subst eo38) | ((with_reducible refine gate_builtin (b := .append) (xs := #[.tmp 37, .tmp 41]) rfl ?_); at_builtin; refine Kd.R_append_rows (Kd.int .u8) (w0 := w) w.heap.size rfl (.tmp 37) (.tmp 41) 43 5 (.int .u8 0) 1 rfl Try.underlying43 info5 rfl (by decide) (by omega) v405 y404 t419 _ _ _ (fun k_ => some k_ ≠ (.slice Ao35 t416.length co35 : Value).ownBlock ∧ some k_ ≠ (.slice Ao38 t419.length co38 : Value).ownBlock) (fun _ => False) rfl rfl ?aO ?aR (fun _ _ h => h) (fun _ h => h.elim) ?aF ?aB ?aS ?aL ?_; (case aR => exact sc_ (Kd.R_reads' HO421.out).2.2); (case aB => exact (bl2_ HB GE399 GE400)); (case aF => exact (fun k_ hk => ⟨Kd.fresh' (Kd.R_lt (kr_ HO418)) k_ hk, Kd.fresh' (Kd.R_lt (kr_ HO421)) k_ hk⟩)); (case aO => exact (by (with_reducible repeat (first | apply Kd.R_alloc | apply Kd.R_drewN | apply Kd.R_drew)); exact Kd.R_mono HO_5.out (fun _ hk => ⟨hk.1.2, hk.2⟩))); (case aS => exact (below_size (bl2_ HB GE399 GE400))); (case aL => have := LMc31.out; omega); intro v423 w37 ho hb hg hat; rw [← Ny422.out] at ho; have n0_ := Aside0.mk (blk_grown (g := gb399) (bk_ BK399) hg (Kd.R_ne HO_5.out BK399.out (by decide))); have n1_ := Aside0.mk (blk_grown (g := gb400) (bk_ BK400) hg (Kd.R_ne HO_5.out BK400.out (by decide))); have n2_ := Aside0.mk (Kd.R_after (ok := (fun k_ => some k_ ≠ (.slice Ao38 t419.length co38 : Value).ownBlock)) (by (with_reducible repeat (first | apply Kd.R_alloc | apply Kd.R_drewN | apply Kd.R_drew)); exact Kd.R_mono HO418.out (fun _ hk => ⟨hk.2, hk.1.2⟩)) hg hat); have n3_ := Aside0.mk (Kd.R_after (ok := (fun k_ => some k_ ≠ (.slice Ao35 t416.length co35 : Value).ownBlock)) (by (with_reducible repeat (first | apply Kd.R_alloc | apply Kd.R_drewN | apply Kd.R_drew)); exact Kd.R_mono HO421.out (fun _ hk => ⟨hk.2, hk.1.2⟩)) hg hat); have n4_ := Aside0.mk (hb); have n5_ := Aside0.mk (ho); clear BK399; clear BK400; clear HO418; clear HO421; clear HB; clear HO_5; have BK399 := n0_; have BK400 := n1_; have HO418 := n2_; have HO421 := n3_; have HB := n4_; have HO424 := n5_; clear n0_ n1_ n2_ n3_ n4_ n5_; clear ho hb hg hat))
         go_ret
         exact ⟨_, er_, by (with_reducible repeat (first | apply Kd.R_alloc | apply Kd.R_drewN | apply Kd.R_drew)); exact Kd.R_mono HO424.out (fun _ hk => trivial), bl2_ HB GE399 GE400⟩
        ·rw [if_neg c31] at H
         exact absurd H (by simp)
       ·replace c28 := Bool.eq_false_iff.mpr c28
        subst c28
        have H1 : (if a0_0 = 15 then (basculeref03_AnswerBytes.j2 kj24 y404 (a0_0 == 15) a0_0 a0_1 a0_2 l0_3 a0_4 a0_5 a0_6) else (basculeref03_AnswerBytes.j2 kj24 y404 (a0_0 == 16) a0_0 a0_1 a0_2 l0_3 a0_4 a0_5 a0_6)) = some r := by rw [if_neg (show ¬ (false = true) by decide)] at H; exact H
        clear H
        have H := H1
        clear H1
        have HC39 := Aside0.mk H
        clear H
        go_upto_if 44 with (fail)
        go_cut [44] (fun v44 wc => ∃ (kq : Nat) (x44_38 : Bool), v44 = .bool x44_38 ∧ Aside0 (basculeref03_AnswerBytes.j2 kq y404 x44_38 a0_0 a0_1 a0_2 l0_3 a0_4 a0_5 a0_6 = some r) ∧ Aside0 (kq ≤ kj24) ∧ Aside0 (Kd.R (Kd.int .u8) 5 wc w.heap.size (fun _ => True) v405 y404) ∧ Aside0 (wc.heap[gb399]? = some (.cells #[.int .i64 a0_0, .int .i64 a0_1, .int .i64 a0_2, (.slice A0_3 l0_3.length c0_3), .int .i64 a0_4, .int .i64 a0_5, .int .i64 a0_6] 31 (0, 0))) ∧ Aside0 (wc.heap[gb400]? = some (.cells #[(.slice A1_0 l1_0.length c1_0), .int .i64 a1_1] 46 (0, 0))) ∧ Aside0 (Below w.heap.size w wc))
        case first =>
         have H := HC39.out
         clear HC39
         by_cases c40 : a0_0 = 15
         ·rw [if_pos c40] at H
          have c40b0 : (a0_0 == 15) = true := beq_iff_eq.mpr c40
          have c40b1 : (a0_0 != 15) = false := bne_eq_false_iff_eq.mpr c40
          clear c40
          (first | rw [c40b0] | (simp only [i64_w, i32_w]; rw [c40b0]) | skip)
          have H' := Aside0.mk H
          clear H
          go_wp2
          go_meet
          case rel => exact ⟨_, ((a0_0 == 15)), (by first | rfl | (simp; done) | (simp [*]; done)), H', ⟨by have := HJ3.out; have := HJ24.out; first | omega | exact Nat.le_refl _⟩, ⟨kr_ HO_5⟩, ⟨bk_ BK399⟩, ⟨bk_ BK400⟩, ⟨bl2_ HB GE399 GE400⟩⟩
         ·rw [if_neg c40] at H
          have c40b0 : (a0_0 == 15) = false := beq_eq_false_iff_ne.mpr c40
          have c40b1 : (a0_0 != 15) = true := bne_iff_ne.mpr c40
          (first | rw [c40b0] | (simp only [i64_w, i32_w]; rw [c40b0]) | skip)
          have H' := Aside0.mk H
          clear H
          go_wp2
          go_meet
          case rel => exact ⟨_, ((a0_0 == 16)), (by first | rfl | (simp; done) | (simp [*]; done)), H', ⟨by have := HJ3.out; have := HJ24.out; first | omega | exact Nat.le_refl _⟩, ⟨kr_ HO_5⟩, ⟨bk_ BK399⟩, ⟨bk_ BK400⟩, ⟨bl2_ HB GE399 GE400⟩⟩
        case rest =>
         clear HC39
         try clear c1
         try clear c2
         try clear p2
         try clear c3
         try clear c3b0
         try clear c3b1
         try clear c4
         try clear c5
         try clear p6
         try clear c7
         try clear c13
         try clear c13b0
         try clear c13b1
         try clear c14
         try clear c17
         try clear c18
         try clear c26
         try clear c26b0
         try clear c26b1
         try clear c27
         try clear c27b0
         try clear c27b1
         try clear c28
         try clear c31
         try clear c32
         try clear c37
         try clear c40
         try clear c40b0
         try clear c40b1
         try clear hcz12_0 hcz12_1 hcz12_2 hcz12_3 hcz12_4 hcz12_5 hcz12_6
         try clear hcz19_0 hcz19_1
         try clear hcz33_0 hcz33_1
         try clear hcz8_0 hcz8_1
         try clear hcz9_0 hcz9_1 hcz9_2 hcz9_3 hcz9_4 hcz9_5 hcz9_6
         try clear hfz12_0 hfz12_1 hfz12_2 hfz12_3 hfz12_4 hfz12_5 hfz12_6
         try clear hfz19_0 hfz19_1
         try clear hfz33_0 hfz33_1
         try clear hfz8_0 hfz8_1
         try clear hfz9_0 hfz9_1 hfz9_2 hfz9_3 hfz9_4 hfz9_5 hfz9_6
         try clear p2
         try clear p6
         obtain ⟨kq, x44_38, rfl, HA, HJ38, HO_5, BK399, BK400, HB⟩ := hcut
         cases kq with
         | zero => exact absurd HA.out (by simp [basculeref03_AnswerBytes.j2])
         | succ kj38 =>
          have H := HA.out
          clear HA
          simp only [basculeref03_AnswerBytes.j2] at H
          by_cases c41 : x44_38 = true
          ·subst c41
           have H1 : ((basculeref03_lay.f kj38 (([a0_1, a0_2] : List Int))).bind fun t428 => (if y404.length + t428.length < 140737488355328 then (some (y404 ++ t428)) else (none))) = some r := by rw [if_pos rfl] at H; exact H
           clear H
           have H := H1
           clear H1
           obtain ⟨y425, hy425⟩ : ∃ y_ : List Int, y_ = (([a0_1, a0_2] : List Int)) := ⟨_, rfl⟩
           replace H : ((basculeref03_lay.f kj38 y425).bind fun t428 => (if y404.length + t428.length < 140737488355328 then (some (y404 ++ t428)) else (none))) = some r := by first | (rw [hy425]; with_reducible exact H) | (have H2_ := (Option.bind_some _ _).symm.trans H; rw [hy425]; with_reducible exact H2_) | (have H2_ := (Option.bind_some _ _).symm.trans H; with_reducible exact H2_) | with_reducible exact H | (rw [hy425]; exact H) | exact H
           have Ny425 := Aside0.mk hy425
           clear hy425
           replace H := Option.bind_eq_some_iff.mp H
           obtain ⟨t428, A420, H⟩ := H
           replace H : (if y404.length + t428.length < 140737488355328 then (some (y404 ++ t428)) else (none)) = some r := H
           have A42 := Aside0.mk A420
           clear A420
           by_cases c43 : y404.length + t428.length < 140737488355328
           ·rw [if_pos c43] at H
            have LMc43 := Aside0.mk c43
            clear c43
            obtain ⟨y431, hy431⟩ : ∃ y_ : List Int, y_ = (y404 ++ t428) := ⟨_, rfl⟩
            replace H : (some y431) = some r := by first | (rw [hy431]; with_reducible exact H) | (have H2_ := (Option.bind_some _ _).symm.trans H; rw [hy431]; with_reducible exact H2_) | (have H2_ := (Option.bind_some _ _).symm.trans H; with_reducible exact H2_) | with_reducible exact H | (rw [hy431]; exact H) | exact H
            have Ny431 := Aside0.mk hy431
            clear hy431
            obtain rfl := Option.some.inj H
            have hnb44 := NB399_400.out
            have hnc44 := NB400_399.out
            refine cz7_ BK399.out ?_; intro hcz45_0 hcz45_1 hcz45_2 hcz45_3 hcz45_4 hcz45_5 hcz45_6 hfz45_0 hfz45_1 hfz45_2 hfz45_3 hfz45_4 hfz45_5 hfz45_6
            go_wp2_with (first | ((with_reducible refine gate_dst (N := 52) rfl ?_); refine Kd.R_lit (Kd.int .i64) _ 3 ?hg (N := 52) ?hd (xs := ([a0_1, a0_2] : List Int)) (inner := [.int .i64 a0_1, .int .i64 a0_2]) (ok := fun _ => True) (okp := fun _ => True) ?hr ?hp (fun _ hk => hk) trivial (Below.refl _ _) (Nat.le_refl _) (by simp) ?_; (case hd => rfl); (case hg => rfl); (case hr => first | (go_simp; done) | (go_simp; rfl)); (case hp => exact (Reps.one (show Kd.M (Kd.int .i64) _ _ _ a0_1 [.int .i64 a0_1] from rfl) (Reps.one (show Kd.M (Kd.int .i64) _ _ _ a0_2 [.int .i64 a0_2] from rfl) (Reps.none _ _)))); intro v426 w46 ho47 hb hg_ hnew_; clear hg_ hnew_; (first | rw [← Ny425.out] at ho47 | (simp only [Int.reduceToNat] at ho47; rw [← Ny425.out] at ho47)); have n0_ := Aside0.mk (Kd.R_below (kr_ HO_5) hb); have n1_ := Aside0.mk (Kd.R_lower ho47 (below_size (bl2_ HB GE399 GE400))); have n2_ := Aside0.mk (blk_below (g := gb399) (bk_ BK399) hb); have n3_ := Aside0.mk (blk_below (g := gb400) (bk_ BK400) hb); have n4_ := Aside0.mk (below_step (bl2_ HB GE399 GE400) hb); clear HO_5; clear BK399; clear BK400; clear HB; have HO_5 := n0_; have HO427 := n1_; have BK399 := n2_; have BK400 := n3_; have HB := n4_; clear n0_ n1_ n2_ n3_ n4_; clear hb ho47; obtain ⟨Ao48, co48, eo48⟩ := Kd.R_slice HO427.out; subst eo48) | ((with_reducible refine gate_callee (f := 54) rfl ?_); refine goesL_ (some 53) rfl rfl Try.func54 (by kernel_rfl) rfl #[.slice Ao48 y425.length co48] rfl ar_ ?_; (with_reducible refine (basculeref03_lay.calls kj38 _ _ y425 t428 _ ?side1 ?side2 A42.out).mono ?_); (case side1 => exact sc_ (Kd.R_reads' HO427.out).2.2); (case side2 => exact (Kd.R_reads' HO427.out).2.1); rintro e w49 ⟨v429, rfl, ho0, hb⟩; refine ⟨_, rfl, ?_⟩; have n0_ := Aside0.mk (Kd.R_elder' (kr_ HO_5) (Kd.R_base ho0) hb); have n1_ := Aside0.mk (Kd.R_below (kr_ HO427) hb); have n2_ := Aside0.mk (Kd.R_lower (Kd.R_new' ho0 (Kd.R_lt (kr_ HO_5))) (below_size (bl2_ HB GE399 GE400))); have n3_ := Aside0.mk (blk_below (g := gb399) (bk_ BK399) hb); have n4_ := Aside0.mk (blk_below (g := gb400) (bk_ BK400) hb); have n5_ := Aside0.mk (below_step (bl2_ HB GE399 GE400) hb); clear HO_5; clear HO427; clear BK399; clear BK400; clear HB; have HO_5 := n0_; have HO427 := n1_; have HO430 := n2_; have BK399 := n3_; have BK400 := n4_; have HB := n5_; clear n0_ n1_ n2_ n3_ n4_ n5_; (try clear hb); (try clear hb2); (try clear hk); (try clear hi); (try clear ho0); obtain ⟨Ao51, co51, eo51⟩ := Kd.R_slice HO430.out; subst eo51) | ((with_reducible refine gate_builtin (b := .append) (xs := #[.tmp 47, .tmp 53]) rfl ?_); at_builtin; refine Kd.R_append_rows (Kd.int .u8) (w0 := w) w.heap.size rfl (.tmp 47) (.tmp 53) 43 5 (.int .u8 0) 1 rfl Try.underlying43 info5 rfl (by decide) (by omega) v405 y404 t428 _ _ _ (fun k_ => some k_ ≠ (.slice Ao51 t428.length co51 : Value).ownBlock) (fun _ => False) rfl rfl ?aO ?aR (fun _ _ h => h) (fun _ h => h.elim) ?aF ?aB ?aS ?aL ?_; (case aR => exact sc_ (Kd.R_reads' HO430.out).2.2); (case aB => exact (bl2_ HB GE399 GE400)); (case aF => exact (fun k_ hk => Kd.fresh' (Kd.R_lt (kr_ HO430)) k_ hk)); (case aO => exact (by (with_reducible repeat (first | apply Kd.R_alloc | apply Kd.R_drewN | apply Kd.R_drew)); exact Kd.R_mono HO_5.out (fun _ hk => hk.2))); (case aS => exact (below_size (bl2_ HB GE399 GE400))); (case aL => have := LMc43.out; omega); intro v432 w50 ho hb hg hat; rw [← Ny431.out] at ho; have n0_ := Aside0.mk (blk_grown (g := gb399) (bk_ BK399) hg (Kd.R_ne HO_5.out BK399.out (by decide))); have n1_ := Aside0.mk (blk_grown (g := gb400) (bk_ BK400) hg (Kd.R_ne HO_5.out BK400.out (by decide))); have n2_ := Aside0.mk (Kd.R_over' (kr_ HO427) (Kd.R_typed (kr_ HO_5)) (by decide) hg); have n3_ := Aside0.mk (Kd.R_after (ok := (fun _ => True)) (kr_ HO430) hg hat); have n4_ := Aside0.mk (hb); have n5_ := Aside0.mk (ho); clear BK399; clear BK400; clear HO427; clear HO430; clear HB; clear HO_5; have BK399 := n0_; have BK400 := n1_; have HO427 := n2_; have HO430 := n3_; have HB := n4_; have HO433 := n5_; clear n0_ n1_ n2_ n3_ n4_ n5_; clear ho hb hg hat))
            go_ret
            exact ⟨_, er_, by (with_reducible repeat (first | apply Kd.R_alloc | apply Kd.R_drewN | apply Kd.R_drew)); exact Kd.R_mono HO433.out (fun _ hk => trivial), bl2_ HB GE399 GE400⟩
           ·rw [if_neg c43] at H
            exact absurd H (by simp)
          ·replace c41 := Bool.eq_false_iff.mpr c41
           subst c41
           have H1 : ((basculeref03_Bytes.f kj38 a0_0 a0_1 a0_2 l0_3 a0_4 a0_5 a0_6).bind fun t434 => (some t434)) = some r := by rw [if_neg (show ¬ (false = true) by decide)] at H; exact H
           clear H
           have H := H1
           clear H1
           replace H := Option.bind_eq_some_iff.mp H
           obtain ⟨t434, A520, H⟩ := H
           replace H : (some t434) = some r := H
           have A52 := Aside0.mk A520
           clear A520
           obtain rfl := Option.some.inj H
           have hnb53 := NB399_400.out
           have hnc53 := NB400_399.out
           refine cz7_ BK399.out ?_; intro hcz54_0 hcz54_1 hcz54_2 hcz54_3 hcz54_4 hcz54_5 hcz54_6 hfz54_0 hfz54_1 hfz54_2 hfz54_3 hfz54_4 hfz54_5 hfz54_6
           go_wp2_with (first | ((with_reducible refine gate_callee (f := 55) rfl ?_); refine goesL_ (some 57) rfl rfl Try.func55 (by kernel_rfl) rfl #[.agg #[.int .i64 a0_0, .int .i64 a0_1, .int .i64 a0_2, .slice A0_3 l0_3.length c0_3, .int .i64 a0_4, .int .i64 a0_5, .int .i64 a0_6]] rfl ar_ ?_; (with_reducible refine (basculeref03_Bytes.calls kj38 a0_0 a0_1 a0_2 _ _ l0_3 a0_4 a0_5 a0_6 t434 _ ?side1 ?side2 A52.out).mono ?_); (case side1 => exact sc_ (Kd.C_below HR0_3.out HB.out)); (case side2 => exact HC0_3.out); rintro e w55 ⟨v435, rfl, ho0, hb⟩; refine ⟨_, rfl, ?_⟩; have n0_ := Aside0.mk (Kd.R_elder' (kr_ HO_5) (Kd.R_base ho0) hb); have n1_ := Aside0.mk (Kd.R_lower (Kd.R_new' ho0 (Kd.R_lt (kr_ HO_5))) (below_size (bl2_ HB GE399 GE400))); have n2_ := Aside0.mk (blk_below (g := gb399) (bk_ BK399) hb); have n3_ := Aside0.mk (blk_below (g := gb400) (bk_ BK400) hb); have n4_ := Aside0.mk (below_step (bl2_ HB GE399 GE400) hb); clear HO_5; clear BK399; clear BK400; clear HB; have HO_5 := n0_; have HO436 := n1_; have BK399 := n2_; have BK400 := n3_; have HB := n4_; clear n0_ n1_ n2_ n3_ n4_; (try clear hb); (try clear hb2); (try clear hk); (try clear hi); (try clear ho0)))
           go_ret
           exact ⟨_, er_, by (with_reducible repeat (first | apply Kd.R_alloc | apply Kd.R_drewN | apply Kd.R_drew)); exact Kd.R_mono HO436.out (fun _ hk => trivial), bl2_ HB GE399 GE400⟩
 ·rw [if_neg c3] at H
  have c3b0 : (a1_1 == 0) = false := beq_eq_false_iff_ne.mpr c3
  have c3b1 : (a1_1 != 0) = true := bne_iff_ne.mpr c3
  obtain ⟨y401, hy401⟩ : ∃ y_ : List Int, y_ = (([(wrap64 (a0_0 + 128)) % 256, (a1_1) % 256] : List Int)) := ⟨_, rfl⟩
  replace H : (some y401) = some r := by first | (rw [hy401]; with_reducible exact H) | (have H2_ := (Option.bind_some _ _).symm.trans H; rw [hy401]; with_reducible exact H2_) | (have H2_ := (Option.bind_some _ _).symm.trans H; with_reducible exact H2_) | with_reducible exact H | (rw [hy401]; exact H) | exact H
  have Ny401 := Aside0.mk hy401
  clear hy401
  obtain rfl := Option.some.inj H
  go_enter Try.func37, Try.ntmps37
  go_wp2_with (first | ((with_reducible refine gate_dst (N := 2) rfl ?_); refine bx_ (N := 2) (cs := #[.int .i64 a0_0, .int .i64 a0_1, .int .i64 a0_2, .slice A0_3 l0_3.length c0_3, .int .i64 a0_4, .int .i64 a0_5, .int .i64 a0_6]) (t := 31) ?_; intro gb399 hg w56 hbox hb; have n0_ := Aside0.mk (below_step (bl0_ HB) hb); have n1_ := Aside0.mk (hbox); have n2_ := Aside0.mk ((by rw [hg]; exact (below_size (bl0_ HB)) : w.heap.size ≤ gb399)); have n3_ := Aside0.mk ((by rw [hg]; exact (below_size (bl0_ HB)) : w.heap.size ≤ gb399)); clear HB; have HB := n0_; have BK399 := n1_; have GW399 := n2_; have GE399 := n3_; clear n0_ n1_ n2_ n3_; clear hb hbox hg) | ((with_reducible refine gate_dst (N := 3) rfl ?_); refine bx_ (N := 3) (cs := #[.slice A1_0 l1_0.length c1_0, .int .i64 a1_1]) (t := 46) ?_; intro gb400 hg w57 hbox hb; have n0_ := Aside0.mk (blk_below (g := gb399) (bk_ BK399) hb); have n1_ := Aside0.mk (below_step (bl1_ HB GE399) hb); have n2_ := Aside0.mk (hbox); have n3_ := Aside0.mk ((by rw [hg]; exact (below_size (bl1_ HB GE399)) : w.heap.size ≤ gb400)); have n4_ := Aside0.mk ((by rw [hg]; exact (below_size (bl1_ HB GE399)) : w.heap.size ≤ gb400)); have n5_ := Aside0.mk ((by rw [hg]; exact Nat.ne_of_lt (blk_lt (g := gb399) (bk_ BK399)) : gb399 ≠ gb400)); have n6_ := Aside0.mk ((by rw [hg]; exact Nat.ne_of_gt (blk_lt (g := gb399) (bk_ BK399)) : gb400 ≠ gb399)); clear BK399; clear HB; have BK399 := n0_; have HB := n1_; have BK400 := n2_; have GW400 := n3_; have GE400 := n4_; have NB399_400 := n5_; have NB400_399 := n6_; clear n0_ n1_ n2_ n3_ n4_ n5_ n6_; clear hb hbox hg; have hnb58 := NB400_399.out; have hnc58 := NB399_400.out; refine cz2_ BK400.out ?_; intro hcz59_0 hcz59_1 hfz59_0 hfz59_1; refine cz7_ BK399.out ?_; intro hcz60_0 hcz60_1 hcz60_2 hcz60_3 hcz60_4 hcz60_5 hcz60_6 hfz60_0 hfz60_1 hfz60_2 hfz60_3 hfz60_4 hfz60_5 hfz60_6) | ((with_reducible refine gate_dst (N := 16) rfl ?_); refine Kd.R_lit (Kd.int .u8) _ 5 ?hg (N := 16) ?hd (xs := ([(wrap64 (a0_0 + 128)) % 256, (a1_1) % 256] : List Int)) (inner := [.int .u8 ((wrap64 (a0_0 + 128)) % 256), .int .u8 ((a1_1) % 256)]) (ok := fun _ => True) (okp := fun _ => True) ?hr ?hp (fun _ hk => hk) trivial (Below.refl _ _) (Nat.le_refl _) (by simp) ?_; (case hd => rfl); (case hg => rfl); (case hr => first | (go_simp; done) | (go_simp; rfl)); (case hp => exact (Reps.one (show Kd.M (Kd.int .u8) _ _ _ ((wrap64 (a0_0 + 128)) % 256) [.int .u8 ((wrap64 (a0_0 + 128)) % 256)] from rfl) (Reps.one (show Kd.M (Kd.int .u8) _ _ _ ((a1_1) % 256) [.int .u8 ((a1_1) % 256)] from rfl) (Reps.none _ _)))); intro v402 w61 ho62 hb hg_ hnew_; clear hg_ hnew_; (first | rw [← Ny401.out] at ho62 | (simp only [Int.reduceToNat] at ho62; rw [← Ny401.out] at ho62)); have n0_ := Aside0.mk (Kd.R_lower ho62 (below_size (bl2_ HB GE399 GE400))); have n1_ := Aside0.mk (blk_below (g := gb399) (bk_ BK399) hb); have n2_ := Aside0.mk (blk_below (g := gb400) (bk_ BK400) hb); have n3_ := Aside0.mk (below_step (bl2_ HB GE399 GE400) hb); clear BK399; clear BK400; clear HB; have HO403 := n0_; have BK399 := n1_; have BK400 := n2_; have HB := n3_; clear n0_ n1_ n2_ n3_; clear hb ho62))
  go_ret
  exact ⟨_, er_, kr_ HO403, bl2_ HB GE399 GE400⟩
end Go.Proofs.Ytlalpooiegganaa.PG
end

section
namespace Go.Proofs.Ytlalpooiegganaa.PG
open Go.RowKit Go.Proofs.YtlalpooiegganaaW.PrintWords Go.Proofs.YtlalpooiegganaaW.PrintLast Go.Proofs.YtlalpooiegganaaW.PrintMore
attribute [local go_sem] max2_int min2_int max_two min_two max_three min_three max_four min_four   
set_option linter.unusedVariables false
set_option linter.unusedSimpArgs false
open Go.Proofs.Ytlalpooiegganaa.Ext Go.Proofs.Ytlalpooiegganaa.PP Go.Proofs.Ytlalpooiegganaa.ExtF Go.Proofs.Ytlalpooiegganaa.ExtM
def basculeref01_Ints.l0 : Nat → List Int → List Int → Int → Option (Bool)
 | 0, _, _, _ => none
 | k + 1, x0, x1, x5 => if x5 < (x0.length : Int) then (if 0 ≤ x5 then (if x5 < (x1.length : Int) then (if (rd x0 x5) = (rd x1 x5) then (basculeref01_Ints.l0 k x0 x1 (wrap64 (x5 + 1))) else (some false)) else (none)) else (none)) else (some true)
def basculeref01_Ints.f (k : Nat) (l0 : List Int) (l1 : List Int) : Option (Bool) := if (l0.length : Int) = (l1.length : Int) then (basculeref01_Ints.l0 k l0 l1 0) else (some false)
theorem basculeref01_Ints.mono_l : ∀ k, (∀ y0 y1 y2, LeO (basculeref01_Ints.l0 k y0 y1 y2) (basculeref01_Ints.l0 (k + 1) y0 y1 y2))
 | 0 => fun _ _ _ r h => by simp [basculeref01_Ints.l0] at h
 | k + 1 => by
  have ih0 := basculeref01_Ints.mono_l k
  ·intro y0 y1 y2
   unfold basculeref01_Ints.l0
   repeat' first
   | (with_reducible exact ih0 _ _ _)
   | (with_reducible exact LeO.refl _)
   | (with_reducible exact LeO.none _)
   | (with_reducible refine LeO.ite ?_ ?_)
   | (with_reducible refine LeO.bind ?_ (fun _ => ?_))
   | exact ih0 _ _ _
   | exact LeO.none _
   | refine LeO.ite ?_ ?_
   | refine LeO.bind ?_ (fun _ => ?_)
theorem basculeref01_Ints.mono : ∀ a0 a1 k, LeO (basculeref01_Ints.f k a0 a1) (basculeref01_Ints.f (k + 1) a0 a1) := by
 intro a0 a1 k
 have ih0 := basculeref01_Ints.mono_l k
 unfold basculeref01_Ints.f
 repeat' first
  | (with_reducible exact ih0 _ _ _)
  | (with_reducible exact LeO.refl _)
  | (with_reducible exact LeO.none _)
  | (with_reducible refine LeO.ite ?_ ?_)
  | (with_reducible refine LeO.bind ?_ (fun _ => ?_))
  | exact ih0 _ _ _
  | exact LeO.none _
  | refine LeO.ite ?_ ?_
  | refine LeO.bind ?_ (fun _ => ?_)
set_option maxHeartbeats 8000000 in
set_option maxRecDepth 100000 in
theorem basculeref01_Ints.calls (k : Nat) (A0 : Option Addr) (c0 : Nat) (l0 : List Int) (A1 : Option Addr) (c1 : Nat) (l1 : List Int) (r : Bool) (w : World) (hr0 : Kd.C (Kd.int .i64) w A0 l0.length l0) (hc0 : l0.length ≤ c0) (hr1 : Kd.C (Kd.int .i64) w A1 l1.length l1) (hc1 : l1.length ≤ c1) (h : basculeref01_Ints.f k l0 l1 = some r) :
 Calls Try.prog 34 #[.slice A0 l0.length c0, .slice A1 l1.length c1] w fun e w' => e = .returned (.bool r) ∧ Drawn0 w w' := by
 have HR0 := Aside0.mk hr0
 have HC0 := Aside0.mk hc0
 clear hr0 hc0
 have HR1 := Aside0.mk hr1
 have HC1 := Aside0.mk hc1
 clear hr1 hc1
 have H : (if (l0.length : Int) = (l1.length : Int) then (basculeref01_Ints.l0 k l0 l1 0) else (some false)) = some r := h
 clear h
 by_cases c3 : (l0.length : Int) = (l1.length : Int)
 ·rw [if_pos c3] at H
  have c3b0 : ((l0.length : Int) == (l1.length : Int)) = true := beq_iff_eq.mpr c3
  have c3b1 : ((l0.length : Int) != (l1.length : Int)) = false := bne_eq_false_iff_eq.mpr c3
  have c3b2 : (l0.length == l1.length) = true := by first | simpa using c3 | (simp at c3 ⊢; omega)
  clear c3
  have H' := Aside0.mk H
  clear H
  go_enter Try.func34, Try.ntmps34
  go_wp2
  repeat (go_quiet (fail); try go_wp2)
  go_loopg [5] k (fun kq v5 w' => ∃ (x5_1 : Int), v5 = .int .i64 x5_1 ∧ Aside0 (basculeref01_Ints.l0 kq l0 l1 x5_1 = some r) ∧ Aside0 (kq ≤ k) ∧ Drawn0 w w')
  case atStart => exact ⟨(0), (by first | rfl | (simp; done) | (simp [*]; done)), H', ⟨Nat.le_refl _⟩, by repeat (first | exact Drawn0.refl _ | apply Drawn0.step)⟩
  case round =>
   clear H'
   try clear c1
   try clear p2
   try clear c3
   try clear c3b0
   try clear c3b1
   try clear c3b2
   obtain ⟨x5_1, rfl, HA, HK1, ⟨m1, rfl⟩⟩ := hrel
   cases gk with
   | zero => exact absurd HA.out (by simp [basculeref01_Ints.l0])
   | succ k1 =>
    have H := HA.out
    clear HA
    simp only [basculeref01_Ints.l0] at H
    by_cases c4 : x5_1 < (l0.length : Int)
    ·rw [if_pos c4] at H
     have c4b0 : decide (x5_1 < (l0.length : Int)) = true := decide_eq_true c4
     clear c4
     by_cases c5 : 0 ≤ x5_1
     ·rw [if_pos c5] at H
      have c5b0 : decide (0 ≤ x5_1) = true := decide_eq_true c5
      clear c5
      by_cases c6 : x5_1 < (l1.length : Int)
      ·rw [if_pos c6] at H
       have c6b0 : decide (x5_1 < (l1.length : Int)) = true := decide_eq_true c6
       clear c6
       by_cases c7 : (rd l0 x5_1) = (rd l1 x5_1)
       ·rw [if_pos c7] at H
        have c7b0 : ((rd l0 x5_1) == (rd l1 x5_1)) = true := beq_iff_eq.mpr c7
        have c7b1 : ((rd l0 x5_1) != (rd l1 x5_1)) = false := bne_eq_false_iff_eq.mpr c7
        clear c7
        have H' := Aside0.mk H
        clear H
        have p483 : 0 ≤ (x5_1 : Int) := of_decide_eq_true (by first | (with_reducible assumption) | assumption)
        have q483 : x5_1 < (l0.length : Int) := of_decide_eq_true (by first | (with_reducible assumption) | assumption)
        obtain ⟨ad483, e483, hx483_0⟩ := Kd.at_int HR0.out x5_1 p483 q483
        cases e483
        replace p483 := eq_true p483
        replace q483 := eq_true q483
        have p484 : 0 ≤ (x5_1 : Int) := of_decide_eq_true (by first | (with_reducible assumption) | assumption)
        have q484 : x5_1 < (l1.length : Int) := of_decide_eq_true (by first | (with_reducible assumption) | assumption)
        obtain ⟨ad484, e484, hx484_0⟩ := Kd.at_int HR1.out x5_1 p484 q484
        cases e484
        replace p484 := eq_true p484
        replace q484 := eq_true q484
        go_wp2
        repeat (go_quiet (fail); try go_wp2)
        go_roundg k1
        case measure => have := HK1.out; omega
        case rel => exact ⟨(wrap64 (x5_1 + 1)), (by first | rfl | (simp; done) | (simp [*]; done)), H', ⟨by have := HK1.out; omega⟩, by repeat (first | exact Drawn0.refl _ | apply Drawn0.step)⟩
       ·rw [if_neg c7] at H
        have c7b0 : ((rd l0 x5_1) == (rd l1 x5_1)) = false := beq_eq_false_iff_ne.mpr c7
        have c7b1 : ((rd l0 x5_1) != (rd l1 x5_1)) = true := bne_iff_ne.mpr c7
        obtain rfl := Option.some.inj H
        have p483 : 0 ≤ (x5_1 : Int) := of_decide_eq_true (by first | (with_reducible assumption) | assumption)
        have q483 : x5_1 < (l0.length : Int) := of_decide_eq_true (by first | (with_reducible assumption) | assumption)
        obtain ⟨ad483, e483, hx483_0⟩ := Kd.at_int HR0.out x5_1 p483 q483
        cases e483
        replace p483 := eq_true p483
        replace q483 := eq_true q483
        have p484 : 0 ≤ (x5_1 : Int) := of_decide_eq_true (by first | (with_reducible assumption) | assumption)
        have q484 : x5_1 < (l1.length : Int) := of_decide_eq_true (by first | (with_reducible assumption) | assumption)
        obtain ⟨ad484, e484, hx484_0⟩ := Kd.at_int HR1.out x5_1 p484 q484
        cases e484
        replace p484 := eq_true p484
        replace q484 := eq_true q484
        go_wp2
        repeat (go_quiet (fail); try go_wp2)
        go_ret
        exact ⟨by first | rfl | (simp; done) | (simp [*]; done), by repeat (first | exact Drawn0.refl _ | apply Drawn0.step)⟩
      ·rw [if_neg c6] at H
       exact absurd H (by simp)
     ·rw [if_neg c5] at H
      exact absurd H (by simp)
    ·rw [if_neg c4] at H
     have c4b0 : decide (x5_1 < (l0.length : Int)) = false := decide_eq_false c4
     clear c4
     obtain rfl := Option.some.inj H
     go_wp2
     repeat (go_quiet (fail); try go_wp2)
     go_ret
     exact ⟨by first | rfl | (simp; done) | (simp [*]; done), by repeat (first | exact Drawn0.refl _ | apply Drawn0.step)⟩
 ·rw [if_neg c3] at H
  have c3b0 : ((l0.length : Int) == (l1.length : Int)) = false := beq_eq_false_iff_ne.mpr c3
  have c3b1 : ((l0.length : Int) != (l1.length : Int)) = true := bne_iff_ne.mpr c3
  have c3b2 : (l0.length == l1.length) = false := by first | simpa using c3 | (simp at c3 ⊢; omega)
  obtain rfl := Option.some.inj H
  go_enter Try.func34, Try.ntmps34
  go_wp2
  repeat (go_quiet (fail); try go_wp2)
  go_ret
  exact ⟨by first | rfl | (simp; done) | (simp [*]; done), by repeat (first | exact Drawn0.refl _ | apply Drawn0.step)⟩
end Go.Proofs.Ytlalpooiegganaa.PG
end

section
namespace Go.Proofs.Ytlalpooiegganaa.PG
open Go.RowKit Go.Proofs.YtlalpooiegganaaW.PrintWords Go.Proofs.YtlalpooiegganaaW.PrintLast Go.Proofs.YtlalpooiegganaaW.PrintMore
attribute [local go_sem] max2_int min2_int max_two min_two max_three min_three max_four min_four   
set_option linter.unusedVariables false
set_option linter.unusedSimpArgs false
open Go.Proofs.Ytlalpooiegganaa.Ext Go.Proofs.Ytlalpooiegganaa.PP Go.Proofs.Ytlalpooiegganaa.ExtF Go.Proofs.Ytlalpooiegganaa.ExtM
def basculeref03_Same.f (k : Nat) (a0_0 : Int) (a0_1 : Int) (a0_2 : Int) (l0_3 : List Int) (a0_4 : Int) (a0_5 : Int) (a0_6 : Int) (a1_0 : Int) (a1_1 : Int) (a1_2 : Int) (l1_3 : List Int) (a1_4 : Int) (a1_5 : Int) (a1_6 : Int) : Option (Bool) := if a0_0 = a1_0 then (if a0_1 = a1_1 then (if a0_2 = a1_2 then (if a0_4 = a1_4 then (if a0_5 = a1_5 then (if a0_6 = a1_6 then ((basculeref01_Ints.f k l0_3 l1_3).bind fun t487 => (some t487)) else (some false)) else (some false)) else (some false)) else (some false)) else (some false)) else (some false)
theorem basculeref03_Same.mono : ∀ a0 a1 a2 a3 a4 a5 a6 a7 a8 a9 a10 a11 a12 a13 k, LeO (basculeref03_Same.f k a0 a1 a2 a3 a4 a5 a6 a7 a8 a9 a10 a11 a12 a13) (basculeref03_Same.f (k + 1) a0 a1 a2 a3 a4 a5 a6 a7 a8 a9 a10 a11 a12 a13) := by
 intro a0 a1 a2 a3 a4 a5 a6 a7 a8 a9 a10 a11 a12 a13 k
 unfold basculeref03_Same.f
 repeat' first
  | (with_reducible exact basculeref01_Ints.mono _ _ _)
  | (with_reducible exact LeO.refl _)
  | (with_reducible exact LeO.none _)
  | (with_reducible refine LeO.ite ?_ ?_)
  | (with_reducible refine LeO.bind ?_ (fun _ => ?_))
  | exact basculeref01_Ints.mono _ _ _
  | exact LeO.none _
  | refine LeO.ite ?_ ?_
  | refine LeO.bind ?_ (fun _ => ?_)
set_option maxHeartbeats 8000000 in
set_option maxRecDepth 100000 in
theorem basculeref03_Same.calls (k : Nat) (a0_0 : Int) (a0_1 : Int) (a0_2 : Int) (A0_3 : Option Addr) (c0_3 : Nat) (l0_3 : List Int) (a0_4 : Int) (a0_5 : Int) (a0_6 : Int) (a1_0 : Int) (a1_1 : Int) (a1_2 : Int) (A1_3 : Option Addr) (c1_3 : Nat) (l1_3 : List Int) (a1_4 : Int) (a1_5 : Int) (a1_6 : Int) (r : Bool) (w : World) (hr0_3 : Kd.C (Kd.int .i64) w A0_3 l0_3.length l0_3) (hc0_3 : l0_3.length ≤ c0_3) (hr1_3 : Kd.C (Kd.int .i64) w A1_3 l1_3.length l1_3) (hc1_3 : l1_3.length ≤ c1_3) (h : basculeref03_Same.f k a0_0 a0_1 a0_2 l0_3 a0_4 a0_5 a0_6 a1_0 a1_1 a1_2 l1_3 a1_4 a1_5 a1_6 = some r) :
 Calls Try.prog 13 #[.agg #[.int .i64 a0_0, .int .i64 a0_1, .int .i64 a0_2, .slice A0_3 l0_3.length c0_3, .int .i64 a0_4, .int .i64 a0_5, .int .i64 a0_6], .agg #[.int .i64 a1_0, .int .i64 a1_1, .int .i64 a1_2, .slice A1_3 l1_3.length c1_3, .int .i64 a1_4, .int .i64 a1_5, .int .i64 a1_6]] w fun e w' => e = .returned (.bool r) ∧ Below w.heap.size w w' := by
 have hu31 := Try.underlying31
 have HR0_3 := Aside0.mk hr0_3
 have HC0_3 := Aside0.mk hc0_3
 clear hr0_3 hc0_3
 have HR1_3 := Aside0.mk hr1_3
 have HC1_3 := Aside0.mk hc1_3
 clear hr1_3 hc1_3
 have HB := Aside0.mk (Below.refl w.heap.size w)
 have H : (if a0_0 = a1_0 then (if a0_1 = a1_1 then (if a0_2 = a1_2 then (if a0_4 = a1_4 then (if a0_5 = a1_5 then (if a0_6 = a1_6 then ((basculeref01_Ints.f k l0_3 l1_3).bind fun t487 => (some t487)) else (some false)) else (some false)) else (some false)) else (some false)) else (some false)) else (some false)) = some r := h
 clear h
 by_cases c3 : a0_0 = a1_0
 ·rw [if_pos c3] at H
  have c3b0 : (a0_0 == a1_0) = true := beq_iff_eq.mpr c3
  have c3b1 : (a0_0 != a1_0) = false := bne_eq_false_iff_eq.mpr c3
  clear c3
  by_cases c4 : a0_1 = a1_1
  ·rw [if_pos c4] at H
   have c4b0 : (a0_1 == a1_1) = true := beq_iff_eq.mpr c4
   have c4b1 : (a0_1 != a1_1) = false := bne_eq_false_iff_eq.mpr c4
   clear c4
   by_cases c5 : a0_2 = a1_2
   ·rw [if_pos c5] at H
    have c5b0 : (a0_2 == a1_2) = true := beq_iff_eq.mpr c5
    have c5b1 : (a0_2 != a1_2) = false := bne_eq_false_iff_eq.mpr c5
    clear c5
    by_cases c6 : a0_4 = a1_4
    ·rw [if_pos c6] at H
     have c6b0 : (a0_4 == a1_4) = true := beq_iff_eq.mpr c6
     have c6b1 : (a0_4 != a1_4) = false := bne_eq_false_iff_eq.mpr c6
     clear c6
     by_cases c7 : a0_5 = a1_5
     ·rw [if_pos c7] at H
      have c7b0 : (a0_5 == a1_5) = true := beq_iff_eq.mpr c7
      have c7b1 : (a0_5 != a1_5) = false := bne_eq_false_iff_eq.mpr c7
      clear c7
      by_cases c8 : a0_6 = a1_6
      ·rw [if_pos c8] at H
       have c8b0 : (a0_6 == a1_6) = true := beq_iff_eq.mpr c8
       have c8b1 : (a0_6 != a1_6) = false := bne_eq_false_iff_eq.mpr c8
       clear c8
       replace H := Option.bind_eq_some_iff.mp H
       obtain ⟨t487, A90, H⟩ := H
       replace H : (some t487) = some r := H
       have A9 := Aside0.mk A90
       clear A90
       obtain rfl := Option.some.inj H
       go_enter Try.func13, Try.ntmps13
       go_wp2_with (first | ((with_reducible refine gate_dst (N := 2) rfl ?_); refine bx_ (N := 2) (cs := #[.int .i64 a0_0, .int .i64 a0_1, .int .i64 a0_2, .slice A0_3 l0_3.length c0_3, .int .i64 a0_4, .int .i64 a0_5, .int .i64 a0_6]) (t := 31) ?_; intro gb485 hg w10 hbox hb; have n0_ := Aside0.mk (below_step (bl0_ HB) hb); have n1_ := Aside0.mk (hbox); have n2_ := Aside0.mk ((by rw [hg]; exact (below_size (bl0_ HB)) : w.heap.size ≤ gb485)); have n3_ := Aside0.mk ((by rw [hg]; exact (below_size (bl0_ HB)) : w.heap.size ≤ gb485)); clear HB; have HB := n0_; have BK485 := n1_; have GW485 := n2_; have GE485 := n3_; clear n0_ n1_ n2_ n3_; clear hb hbox hg) | ((with_reducible refine gate_dst (N := 3) rfl ?_); refine bx_ (N := 3) (cs := #[.int .i64 a1_0, .int .i64 a1_1, .int .i64 a1_2, .slice A1_3 l1_3.length c1_3, .int .i64 a1_4, .int .i64 a1_5, .int .i64 a1_6]) (t := 31) ?_; intro gb486 hg w11 hbox hb; have n0_ := Aside0.mk (blk_below (g := gb485) (bk_ BK485) hb); have n1_ := Aside0.mk (below_step (bl1_ HB GE485) hb); have n2_ := Aside0.mk (hbox); have n3_ := Aside0.mk ((by rw [hg]; exact (below_size (bl1_ HB GE485)) : w.heap.size ≤ gb486)); have n4_ := Aside0.mk ((by rw [hg]; exact (below_size (bl1_ HB GE485)) : w.heap.size ≤ gb486)); have n5_ := Aside0.mk ((by rw [hg]; exact Nat.ne_of_lt (blk_lt (g := gb485) (bk_ BK485)) : gb485 ≠ gb486)); have n6_ := Aside0.mk ((by rw [hg]; exact Nat.ne_of_gt (blk_lt (g := gb485) (bk_ BK485)) : gb486 ≠ gb485)); clear BK485; clear HB; have BK485 := n0_; have HB := n1_; have BK486 := n2_; have GW486 := n3_; have GE486 := n4_; have NB485_486 := n5_; have NB486_485 := n6_; clear n0_ n1_ n2_ n3_ n4_ n5_ n6_; clear hb hbox hg; have hnb12 := NB485_486.out; have hnc12 := NB486_485.out; refine cz7_ BK485.out ?_; intro hcz13_0 hcz13_1 hcz13_2 hcz13_3 hcz13_4 hcz13_5 hcz13_6 hfz13_0 hfz13_1 hfz13_2 hfz13_3 hfz13_4 hfz13_5 hfz13_6; refine cz7_ BK486.out ?_; intro hcz14_0 hcz14_1 hcz14_2 hcz14_3 hcz14_4 hcz14_5 hcz14_6 hfz14_0 hfz14_1 hfz14_2 hfz14_3 hfz14_4 hfz14_5 hfz14_6) | (go_at_call 34; (with_reducible refine (basculeref01_Ints.calls k _ _ l0_3 _ _ l1_3 t487 _ ?side1 ?side2 ?side3 ?side4 A9.out).mono ?_); (case side1 => exact sc_ (Kd.C_below HR0_3.out HB.out)); (case side2 => exact HC0_3.out); (case side3 => exact sc_ (Kd.C_below HR1_3.out HB.out)); (case side4 => exact HC1_3.out); rintro e w' ⟨rfl, ⟨nd, rfl⟩⟩))
       go_ret
       exact ⟨er_, bl2_ HB GE485 GE486⟩
      ·rw [if_neg c8] at H
       have c8b0 : (a0_6 == a1_6) = false := beq_eq_false_iff_ne.mpr c8
       have c8b1 : (a0_6 != a1_6) = true := bne_iff_ne.mpr c8
       obtain rfl := Option.some.inj H
       go_enter Try.func13, Try.ntmps13
       go_wp2_with (first | ((with_reducible refine gate_dst (N := 2) rfl ?_); refine bx_ (N := 2) (cs := #[.int .i64 a0_0, .int .i64 a0_1, .int .i64 a0_2, .slice A0_3 l0_3.length c0_3, .int .i64 a0_4, .int .i64 a0_5, .int .i64 a0_6]) (t := 31) ?_; intro gb485 hg w15 hbox hb; have n0_ := Aside0.mk (below_step (bl0_ HB) hb); have n1_ := Aside0.mk (hbox); have n2_ := Aside0.mk ((by rw [hg]; exact (below_size (bl0_ HB)) : w.heap.size ≤ gb485)); have n3_ := Aside0.mk ((by rw [hg]; exact (below_size (bl0_ HB)) : w.heap.size ≤ gb485)); clear HB; have HB := n0_; have BK485 := n1_; have GW485 := n2_; have GE485 := n3_; clear n0_ n1_ n2_ n3_; clear hb hbox hg) | ((with_reducible refine gate_dst (N := 3) rfl ?_); refine bx_ (N := 3) (cs := #[.int .i64 a1_0, .int .i64 a1_1, .int .i64 a1_2, .slice A1_3 l1_3.length c1_3, .int .i64 a1_4, .int .i64 a1_5, .int .i64 a1_6]) (t := 31) ?_; intro gb486 hg w16 hbox hb; have n0_ := Aside0.mk (blk_below (g := gb485) (bk_ BK485) hb); have n1_ := Aside0.mk (below_step (bl1_ HB GE485) hb); have n2_ := Aside0.mk (hbox); have n3_ := Aside0.mk ((by rw [hg]; exact (below_size (bl1_ HB GE485)) : w.heap.size ≤ gb486)); have n4_ := Aside0.mk ((by rw [hg]; exact (below_size (bl1_ HB GE485)) : w.heap.size ≤ gb486)); have n5_ := Aside0.mk ((by rw [hg]; exact Nat.ne_of_lt (blk_lt (g := gb485) (bk_ BK485)) : gb485 ≠ gb486)); have n6_ := Aside0.mk ((by rw [hg]; exact Nat.ne_of_gt (blk_lt (g := gb485) (bk_ BK485)) : gb486 ≠ gb485)); clear BK485; clear HB; have BK485 := n0_; have HB := n1_; have BK486 := n2_; have GW486 := n3_; have GE486 := n4_; have NB485_486 := n5_; have NB486_485 := n6_; clear n0_ n1_ n2_ n3_ n4_ n5_ n6_; clear hb hbox hg; have hnb17 := NB485_486.out; have hnc17 := NB486_485.out; refine cz7_ BK485.out ?_; intro hcz18_0 hcz18_1 hcz18_2 hcz18_3 hcz18_4 hcz18_5 hcz18_6 hfz18_0 hfz18_1 hfz18_2 hfz18_3 hfz18_4 hfz18_5 hfz18_6; refine cz7_ BK486.out ?_; intro hcz19_0 hcz19_1 hcz19_2 hcz19_3 hcz19_4 hcz19_5 hcz19_6 hfz19_0 hfz19_1 hfz19_2 hfz19_3 hfz19_4 hfz19_5 hfz19_6))
       go_ret
       exact ⟨er_, bl2_ HB GE485 GE486⟩
     ·rw [if_neg c7] at H
      have c7b0 : (a0_5 == a1_5) = false := beq_eq_false_iff_ne.mpr c7
      have c7b1 : (a0_5 != a1_5) = true := bne_iff_ne.mpr c7
      obtain rfl := Option.some.inj H
      go_enter Try.func13, Try.ntmps13
      go_wp2_with (first | ((with_reducible refine gate_dst (N := 2) rfl ?_); refine bx_ (N := 2) (cs := #[.int .i64 a0_0, .int .i64 a0_1, .int .i64 a0_2, .slice A0_3 l0_3.length c0_3, .int .i64 a0_4, .int .i64 a0_5, .int .i64 a0_6]) (t := 31) ?_; intro gb485 hg w20 hbox hb; have n0_ := Aside0.mk (below_step (bl0_ HB) hb); have n1_ := Aside0.mk (hbox); have n2_ := Aside0.mk ((by rw [hg]; exact (below_size (bl0_ HB)) : w.heap.size ≤ gb485)); have n3_ := Aside0.mk ((by rw [hg]; exact (below_size (bl0_ HB)) : w.heap.size ≤ gb485)); clear HB; have HB := n0_; have BK485 := n1_; have GW485 := n2_; have GE485 := n3_; clear n0_ n1_ n2_ n3_; clear hb hbox hg) | ((with_reducible refine gate_dst (N := 3) rfl ?_); refine bx_ (N := 3) (cs := #[.int .i64 a1_0, .int .i64 a1_1, .int .i64 a1_2, .slice A1_3 l1_3.length c1_3, .int .i64 a1_4, .int .i64 a1_5, .int .i64 a1_6]) (t := 31) ?_; intro gb486 hg w21 hbox hb; have n0_ := Aside0.mk (blk_below (g := gb485) (bk_ BK485) hb); have n1_ := Aside0.mk (below_step (bl1_ HB GE485) hb); have n2_ := Aside0.mk (hbox); have n3_ := Aside0.mk ((by rw [hg]; exact (below_size (bl1_ HB GE485)) : w.heap.size ≤ gb486)); have n4_ := Aside0.mk ((by rw [hg]; exact (below_size (bl1_ HB GE485)) : w.heap.size ≤ gb486)); have n5_ := Aside0.mk ((by rw [hg]; exact Nat.ne_of_lt (blk_lt (g := gb485) (bk_ BK485)) : gb485 ≠ gb486)); have n6_ := Aside0.mk ((by rw [hg]; exact Nat.ne_of_gt (blk_lt (g := gb485) (bk_ BK485)) : gb486 ≠ gb485)); clear BK485; clear HB; have BK485 := n0_; have HB := n1_; have BK486 := n2_; have GW486 := n3_; have GE486 := n4_; have NB485_486 := n5_; have NB486_485 := n6_; clear n0_ n1_ n2_ n3_ n4_ n5_ n6_; clear hb hbox hg; have hnb22 := NB485_486.out; have hnc22 := NB486_485.out; refine cz7_ BK485.out ?_; intro hcz23_0 hcz23_1 hcz23_2 hcz23_3 hcz23_4 hcz23_5 hcz23_6 hfz23_0 hfz23_1 hfz23_2 hfz23_3 hfz23_4 hfz23_5 hfz23_6; refine cz7_ BK486.out ?_; intro hcz24_0 hcz24_1 hcz24_2 hcz24_3 hcz24_4 hcz24_5 hcz24_6 hfz24_0 hfz24_1 hfz24_2 hfz24_3 hfz24_4 hfz24_5 hfz24_6))
      go_ret
      exact ⟨er_, bl2_ HB GE485 GE486⟩
    ·rw [if_neg c6] at H
     have c6b0 : (a0_4 == a1_4) = false := beq_eq_false_iff_ne.mpr c6
     have c6b1 : (a0_4 != a1_4) = true := bne_iff_ne.mpr c6
     obtain rfl := Option.some.inj H
     go_enter Try.func13, Try.ntmps13
     go_wp2_with (first | ((with_reducible refine gate_dst (N := 2) rfl ?_); refine bx_ (N := 2) (cs := #[.int .i64 a0_0, .int .i64 a0_1, .int .i64 a0_2, .slice A0_3 l0_3.length c0_3, .int .i64 a0_4, .int .i64 a0_5, .int .i64 a0_6]) (t := 31) ?_; intro gb485 hg w25 hbox hb; have n0_ := Aside0.mk (below_step (bl0_ HB) hb); have n1_ := Aside0.mk (hbox); have n2_ := Aside0.mk ((by rw [hg]; exact (below_size (bl0_ HB)) : w.heap.size ≤ gb485)); have n3_ := Aside0.mk ((by rw [hg]; exact (below_size (bl0_ HB)) : w.heap.size ≤ gb485)); clear HB; have HB := n0_; have BK485 := n1_; have GW485 := n2_; have GE485 := n3_; clear n0_ n1_ n2_ n3_; clear hb hbox hg) | ((with_reducible refine gate_dst (N := 3) rfl ?_); refine bx_ (N := 3) (cs := #[.int .i64 a1_0, .int .i64 a1_1, .int .i64 a1_2, .slice A1_3 l1_3.length c1_3, .int .i64 a1_4, .int .i64 a1_5, .int .i64 a1_6]) (t := 31) ?_; intro gb486 hg w26 hbox hb; have n0_ := Aside0.mk (blk_below (g := gb485) (bk_ BK485) hb); have n1_ := Aside0.mk (below_step (bl1_ HB GE485) hb); have n2_ := Aside0.mk (hbox); have n3_ := Aside0.mk ((by rw [hg]; exact (below_size (bl1_ HB GE485)) : w.heap.size ≤ gb486)); have n4_ := Aside0.mk ((by rw [hg]; exact (below_size (bl1_ HB GE485)) : w.heap.size ≤ gb486)); have n5_ := Aside0.mk ((by rw [hg]; exact Nat.ne_of_lt (blk_lt (g := gb485) (bk_ BK485)) : gb485 ≠ gb486)); have n6_ := Aside0.mk ((by rw [hg]; exact Nat.ne_of_gt (blk_lt (g := gb485) (bk_ BK485)) : gb486 ≠ gb485)); clear BK485; clear HB; have BK485 := n0_; have HB := n1_; have BK486 := n2_; have GW486 := n3_; have GE486 := n4_; have NB485_486 := n5_; have NB486_485 := n6_; clear n0_ n1_ n2_ n3_ n4_ n5_ n6_; clear hb hbox hg; have hnb27 := NB485_486.out; have hnc27 := NB486_485.out; refine cz7_ BK485.out ?_; intro hcz28_0 hcz28_1 hcz28_2 hcz28_3 hcz28_4 hcz28_5 hcz28_6 hfz28_0 hfz28_1 hfz28_2 hfz28_3 hfz28_4 hfz28_5 hfz28_6; refine cz7_ BK486.out ?_; intro hcz29_0 hcz29_1 hcz29_2 hcz29_3 hcz29_4 hcz29_5 hcz29_6 hfz29_0 hfz29_1 hfz29_2 hfz29_3 hfz29_4 hfz29_5 hfz29_6))
     go_ret
     exact ⟨er_, bl2_ HB GE485 GE486⟩
   ·rw [if_neg c5] at H
    have c5b0 : (a0_2 == a1_2) = false := beq_eq_false_iff_ne.mpr c5
    have c5b1 : (a0_2 != a1_2) = true := bne_iff_ne.mpr c5
    obtain rfl := Option.some.inj H
    go_enter Try.func13, Try.ntmps13
    go_wp2_with (first | ((with_reducible refine gate_dst (N := 2) rfl ?_); refine bx_ (N := 2) (cs := #[.int .i64 a0_0, .int .i64 a0_1, .int .i64 a0_2, .slice A0_3 l0_3.length c0_3, .int .i64 a0_4, .int .i64 a0_5, .int .i64 a0_6]) (t := 31) ?_; intro gb485 hg w30 hbox hb; have n0_ := Aside0.mk (below_step (bl0_ HB) hb); have n1_ := Aside0.mk (hbox); have n2_ := Aside0.mk ((by rw [hg]; exact (below_size (bl0_ HB)) : w.heap.size ≤ gb485)); have n3_ := Aside0.mk ((by rw [hg]; exact (below_size (bl0_ HB)) : w.heap.size ≤ gb485)); clear HB; have HB := n0_; have BK485 := n1_; have GW485 := n2_; have GE485 := n3_; clear n0_ n1_ n2_ n3_; clear hb hbox hg) | ((with_reducible refine gate_dst (N := 3) rfl ?_); refine bx_ (N := 3) (cs := #[.int .i64 a1_0, .int .i64 a1_1, .int .i64 a1_2, .slice A1_3 l1_3.length c1_3, .int .i64 a1_4, .int .i64 a1_5, .int .i64 a1_6]) (t := 31) ?_; intro gb486 hg w31 hbox hb; have n0_ := Aside0.mk (blk_below (g := gb485) (bk_ BK485) hb); have n1_ := Aside0.mk (below_step (bl1_ HB GE485) hb); have n2_ := Aside0.mk (hbox); have n3_ := Aside0.mk ((by rw [hg]; exact (below_size (bl1_ HB GE485)) : w.heap.size ≤ gb486)); have n4_ := Aside0.mk ((by rw [hg]; exact (below_size (bl1_ HB GE485)) : w.heap.size ≤ gb486)); have n5_ := Aside0.mk ((by rw [hg]; exact Nat.ne_of_lt (blk_lt (g := gb485) (bk_ BK485)) : gb485 ≠ gb486)); have n6_ := Aside0.mk ((by rw [hg]; exact Nat.ne_of_gt (blk_lt (g := gb485) (bk_ BK485)) : gb486 ≠ gb485)); clear BK485; clear HB; have BK485 := n0_; have HB := n1_; have BK486 := n2_; have GW486 := n3_; have GE486 := n4_; have NB485_486 := n5_; have NB486_485 := n6_; clear n0_ n1_ n2_ n3_ n4_ n5_ n6_; clear hb hbox hg; have hnb32 := NB485_486.out; have hnc32 := NB486_485.out; refine cz7_ BK485.out ?_; intro hcz33_0 hcz33_1 hcz33_2 hcz33_3 hcz33_4 hcz33_5 hcz33_6 hfz33_0 hfz33_1 hfz33_2 hfz33_3 hfz33_4 hfz33_5 hfz33_6; refine cz7_ BK486.out ?_; intro hcz34_0 hcz34_1 hcz34_2 hcz34_3 hcz34_4 hcz34_5 hcz34_6 hfz34_0 hfz34_1 hfz34_2 hfz34_3 hfz34_4 hfz34_5 hfz34_6))
    go_ret
    exact ⟨er_, bl2_ HB GE485 GE486⟩
  ·rw [if_neg c4] at H
   have c4b0 : (a0_1 == a1_1) = false := beq_eq_false_iff_ne.mpr c4
   have c4b1 : (a0_1 != a1_1) = true := bne_iff_ne.mpr c4
   obtain rfl := Option.some.inj H
   go_enter Try.func13, Try.ntmps13
   go_wp2_with (first | ((with_reducible refine gate_dst (N := 2) rfl ?_); refine bx_ (N := 2) (cs := #[.int .i64 a0_0, .int .i64 a0_1, .int .i64 a0_2, .slice A0_3 l0_3.length c0_3, .int .i64 a0_4, .int .i64 a0_5, .int .i64 a0_6]) (t := 31) ?_; intro gb485 hg w35 hbox hb; have n0_ := Aside0.mk (below_step (bl0_ HB) hb); have n1_ := Aside0.mk (hbox); have n2_ := Aside0.mk ((by rw [hg]; exact (below_size (bl0_ HB)) : w.heap.size ≤ gb485)); have n3_ := Aside0.mk ((by rw [hg]; exact (below_size (bl0_ HB)) : w.heap.size ≤ gb485)); clear HB; have HB := n0_; have BK485 := n1_; have GW485 := n2_; have GE485 := n3_; clear n0_ n1_ n2_ n3_; clear hb hbox hg) | ((with_reducible refine gate_dst (N := 3) rfl ?_); refine bx_ (N := 3) (cs := #[.int .i64 a1_0, .int .i64 a1_1, .int .i64 a1_2, .slice A1_3 l1_3.length c1_3, .int .i64 a1_4, .int .i64 a1_5, .int .i64 a1_6]) (t := 31) ?_; intro gb486 hg w36 hbox hb; have n0_ := Aside0.mk (blk_below (g := gb485) (bk_ BK485) hb); have n1_ := Aside0.mk (below_step (bl1_ HB GE485) hb); have n2_ := Aside0.mk (hbox); have n3_ := Aside0.mk ((by rw [hg]; exact (below_size (bl1_ HB GE485)) : w.heap.size ≤ gb486)); have n4_ := Aside0.mk ((by rw [hg]; exact (below_size (bl1_ HB GE485)) : w.heap.size ≤ gb486)); have n5_ := Aside0.mk ((by rw [hg]; exact Nat.ne_of_lt (blk_lt (g := gb485) (bk_ BK485)) : gb485 ≠ gb486)); have n6_ := Aside0.mk ((by rw [hg]; exact Nat.ne_of_gt (blk_lt (g := gb485) (bk_ BK485)) : gb486 ≠ gb485)); clear BK485; clear HB; have BK485 := n0_; have HB := n1_; have BK486 := n2_; have GW486 := n3_; have GE486 := n4_; have NB485_486 := n5_; have NB486_485 := n6_; clear n0_ n1_ n2_ n3_ n4_ n5_ n6_; clear hb hbox hg; have hnb37 := NB485_486.out; have hnc37 := NB486_485.out; refine cz7_ BK485.out ?_; intro hcz38_0 hcz38_1 hcz38_2 hcz38_3 hcz38_4 hcz38_5 hcz38_6 hfz38_0 hfz38_1 hfz38_2 hfz38_3 hfz38_4 hfz38_5 hfz38_6; refine cz7_ BK486.out ?_; intro hcz39_0 hcz39_1 hcz39_2 hcz39_3 hcz39_4 hcz39_5 hcz39_6 hfz39_0 hfz39_1 hfz39_2 hfz39_3 hfz39_4 hfz39_5 hfz39_6))
   go_ret
   exact ⟨er_, bl2_ HB GE485 GE486⟩
 ·rw [if_neg c3] at H
  have c3b0 : (a0_0 == a1_0) = false := beq_eq_false_iff_ne.mpr c3
  have c3b1 : (a0_0 != a1_0) = true := bne_iff_ne.mpr c3
  obtain rfl := Option.some.inj H
  go_enter Try.func13, Try.ntmps13
  go_wp2_with (first | ((with_reducible refine gate_dst (N := 2) rfl ?_); refine bx_ (N := 2) (cs := #[.int .i64 a0_0, .int .i64 a0_1, .int .i64 a0_2, .slice A0_3 l0_3.length c0_3, .int .i64 a0_4, .int .i64 a0_5, .int .i64 a0_6]) (t := 31) ?_; intro gb485 hg w40 hbox hb; have n0_ := Aside0.mk (below_step (bl0_ HB) hb); have n1_ := Aside0.mk (hbox); have n2_ := Aside0.mk ((by rw [hg]; exact (below_size (bl0_ HB)) : w.heap.size ≤ gb485)); have n3_ := Aside0.mk ((by rw [hg]; exact (below_size (bl0_ HB)) : w.heap.size ≤ gb485)); clear HB; have HB := n0_; have BK485 := n1_; have GW485 := n2_; have GE485 := n3_; clear n0_ n1_ n2_ n3_; clear hb hbox hg) | ((with_reducible refine gate_dst (N := 3) rfl ?_); refine bx_ (N := 3) (cs := #[.int .i64 a1_0, .int .i64 a1_1, .int .i64 a1_2, .slice A1_3 l1_3.length c1_3, .int .i64 a1_4, .int .i64 a1_5, .int .i64 a1_6]) (t := 31) ?_; intro gb486 hg w41 hbox hb; have n0_ := Aside0.mk (blk_below (g := gb485) (bk_ BK485) hb); have n1_ := Aside0.mk (below_step (bl1_ HB GE485) hb); have n2_ := Aside0.mk (hbox); have n3_ := Aside0.mk ((by rw [hg]; exact (below_size (bl1_ HB GE485)) : w.heap.size ≤ gb486)); have n4_ := Aside0.mk ((by rw [hg]; exact (below_size (bl1_ HB GE485)) : w.heap.size ≤ gb486)); have n5_ := Aside0.mk ((by rw [hg]; exact Nat.ne_of_lt (blk_lt (g := gb485) (bk_ BK485)) : gb485 ≠ gb486)); have n6_ := Aside0.mk ((by rw [hg]; exact Nat.ne_of_gt (blk_lt (g := gb485) (bk_ BK485)) : gb486 ≠ gb485)); clear BK485; clear HB; have BK485 := n0_; have HB := n1_; have BK486 := n2_; have GW486 := n3_; have GE486 := n4_; have NB485_486 := n5_; have NB486_485 := n6_; clear n0_ n1_ n2_ n3_ n4_ n5_ n6_; clear hb hbox hg; have hnb42 := NB485_486.out; have hnc42 := NB486_485.out; refine cz7_ BK485.out ?_; intro hcz43_0 hcz43_1 hcz43_2 hcz43_3 hcz43_4 hcz43_5 hcz43_6 hfz43_0 hfz43_1 hfz43_2 hfz43_3 hfz43_4 hfz43_5 hfz43_6; refine cz7_ BK486.out ?_; intro hcz44_0 hcz44_1 hcz44_2 hcz44_3 hcz44_4 hcz44_5 hcz44_6 hfz44_0 hfz44_1 hfz44_2 hfz44_3 hfz44_4 hfz44_5 hfz44_6))
  go_ret
  exact ⟨er_, bl2_ HB GE485 GE486⟩
end Go.Proofs.Ytlalpooiegganaa.PG
end

section
namespace Go.Proofs.Ytlalpooiegganaa.MathP
open Go.RowKit Go.Proofs.YtlalpooiegganaaW.PrintWords Go.Proofs.YtlalpooiegganaaW.PrintLast Go.Proofs.YtlalpooiegganaaW.PrintMore Go.Proofs.Ytlalpooiegganaa.Ext Go.Proofs.Ytlalpooiegganaa.ExtF Go.Proofs.Ytlalpooiegganaa.PP Go.Proofs.Ytlalpooiegganaa.PG Go.Proofs.Ytlalpooiegganaa.ExtM Go.Proofs.Ytlalpooiegganaa.PG
set_option linter.unusedVariables false
def Bytes (l : List Int) : Prop := ∀ x ∈ l, 0 ≤ x ∧ x < 256
instance (l : List Int) : Decidable (Bytes l) := by unfold Bytes; infer_instance
theorem bytes_rd {l : List Int} (hb : Bytes l) (i : Int) : 0 ≤ rd l i ∧ rd l i < 256 := by
 unfold rd
 rcases Nat.lt_or_ge i.toNat l.length with h | h
 ·rw [List.getD_eq_getElem?_getD, List.getElem?_eq_getElem h]
  exact hb _ (List.getElem_mem h)
 ·rw [List.getD_eq_getElem?_getD, List.getElem?_eq_none h]
  exact ⟨by decide, by decide⟩
theorem or_bit : ∀ m : Fin 8, ∀ p : Fin 128, p.1 < 2 ^ m.1 → Go.bits .or .u8 (p.1 : Int) (shl .u8 1 (m.1 : Int)) = (p.1 : Int) + 2 ^ m.1 := by decide +kernel
theorem and_bit : ∀ m : Fin 8, ∀ x : Fin 256, Go.bits .and .i64 (wrap64 (shr .u8 (x.1 : Int) (m.1 : Int))) 1 = (x.1 : Int) / 2 ^ m.1 % 2 := by decide +kernel
theorem bits_rd {l : List Int} (hb : Bits l) (i : Int) : rd l i = 0 ∨ rd l i = 1 := by
 unfold rd
 rcases Nat.lt_or_ge i.toNat l.length with h | h
 ·rw [List.getD_eq_getElem?_getD, List.getElem?_eq_getElem h]
  exact hb _ (List.getElem_mem h)
 ·rw [List.getD_eq_getElem?_getD, List.getElem?_eq_none h]
  exact Or.inl rfl
theorem rd_out (l : List Int) (i : Nat) (h : l.length ≤ i) : rd l (i : Int) = 0 := by
 unfold rd
 rw [List.getD_eq_getElem?_getD, Int.toNat_natCast, List.getElem?_eq_none h]
 rfl
def part (l : List Int) (i : Nat) : Nat → Int
 | 0 => 0
 | m + 1 => part l i m + 2 ^ m * rd l ((i + m : Nat) : Int)
theorem part_range {l : List Int} (hb : Bits l) (i : Nat) : ∀ m, 0 ≤ part l i m ∧ part l i m < 2 ^ m
 | 0 => by simp [part]
 | m + 1 => by
  have ih := part_range hb i m
  have h2 : (2 : Int) ^ (m + 1) = 2 * 2 ^ m := by rw [Int.pow_succ]; omega
  unfold part
  rcases bits_rd hb ((i + m : Nat) : Int) with h | h <;> rw [h] <;> omega
theorem part_beyond (l : List Int) (i : Nat) : ∀ (d m : Nat), l.length ≤ i + m → part l i (m + d) = part l i m
 | 0, m, _ => rfl
 | d + 1, m, h => by
  rw [← Nat.add_assoc]
  show part l i (m + d) + 2 ^ (m + d) * rd l ((i + (m + d) : Nat) : Int) = part l i m
  rw [rd_out l _ (by omega), part_beyond l i d m h]
  omega
def packs (l : List Int) : List Int := (List.range ((l.length + 7) / 8)).map fun j => part l (8 * j) 8
def bitOf (b : List Int) (i : Nat) : Int := rd b ((i / 8 : Nat) : Int) / 2 ^ (i % 8) % 2
def unbits (b : List Int) (n : Nat) : List Int := (List.range n).map (bitOf b)
theorem tdiv8 (i : Nat) (h : i ≤ 1000000000000000000) : wrap64 (Int.tdiv (i : Int) 8) = ((i / 8 : Nat) : Int) := by
 rw [Int.tdiv_eq_ediv_of_nonneg (by omega), wrap64_id _ (by omega) (by omega)]; omega
theorem tmod8 (i : Nat) : Int.tmod (i : Int) 8 = ((i % 8 : Nat) : Int) := by
 rw [Int.tmod_eq_emod_of_nonneg (by omega)]; omega
theorem pow8 (m : Nat) (h : m ≤ 8) : (2 : Int) ^ m ≤ 256 ∧ 0 < (2 : Int) ^ m := by
 have : m = 0 ∨ m = 1 ∨ m = 2 ∨ m = 3 ∨ m = 4 ∨ m = 5 ∨ m = 6 ∨ m = 7 ∨ m = 8 := by omega
 rcases this with rfl | rfl | rfl | rfl | rfl | rfl | rfl | rfl | rfl <;> simp
theorem rp_l1' (l : List Int) (hb : Bits l) (hl : l.length ≤ 1000000000000) (o : List Int) (ho : o.length < 140737488355328) (i : Nat) (hi : i ≤ l.length) (r : List Int) : ∀ (d m k : Nat), m + d = 8 →
 (∀ k', k ≤ k' → basculeref01_Pack.l0 k' l (o ++ [part l i 8]) ((i + 8 : Nat) : Int) = some r) → basculeref01_Pack.l1 (k + d + 1) l o (i : Int) (part l i m) (2 ^ m) ((i + m : Nat) : Int) = some r
 | d, m, k, hmd, hr => by
  have hp := part_range hb i m
  have h8 := pow8 m (by omega)
  have hp8 := part_range hb i 8
  have hw : wrap64 ((i : Int) + 8) = ((i + 8 : Nat) : Int) := by rw [wrap64_id _ (by omega) (by omega)]; omega
  have hmod : part l i 8 % 256 = part l i 8 := by have := hp8.2; omega
  unfold basculeref01_Pack.l1
  rw [hw]
  match d, hmd with
  | 0, hmd =>
   obtain rfl : m = 8 := by omega
   rw [if_neg (by omega), if_pos ho, hmod]
   exact hr _ (by omega)
  | d + 1, hmd =>
   rw [if_pos (by omega)]
   by_cases hc : i + m < l.length
   ·rw [if_pos (by omega), if_pos (by omega)]
    have hrd := bits_rd hb ((i + m : Nat) : Int)
    have e1 : wrap64 (part l i m + wrap64 (2 ^ m * rd l ((i + m : Nat) : Int))) = part l i (m + 1) := by
     show _ = part l i m + 2 ^ m * rd l ((i + m : Nat) : Int)
     rcases hrd with h | h <;> rw [h]
     ·rw [Int.mul_zero, wrap64_id 0 (by omega) (by omega), wrap64_id _ (by omega) (by omega)]
     ·rw [Int.mul_one, wrap64_id (2 ^ m) (by omega) (by omega), wrap64_id _ (by omega) (by omega)]
    have e2 : wrap64 (2 * 2 ^ m) = 2 ^ (m + 1) := by rw [wrap64_id _ (by omega) (by omega), Int.pow_succ]; omega
    have e3 : wrap64 (((i + m : Nat) : Int) + 1) = ((i + (m + 1) : Nat) : Int) := by rw [wrap64_id _ (by omega) (by omega)]; omega
    rw [e1, e2, e3]
    exact rp_l1' l hb hl o ho i hi r d (m + 1) k (by omega) hr
   ·rw [if_neg (by omega), if_pos ho]
    have : part l i 8 = part l i m := by
     have := part_beyond l i (d + 1) m (by omega)
     rw [hmd] at this
     exact this
    rw [← this, hmod]
    exact hr _ (by omega)
theorem rp_l0 (l : List Int) (hb : Bits l) (hl : l.length ≤ 1000000000000) : ∀ (d j k : Nat), j + d = (l.length + 7) / 8 → 20 * d + 1 ≤ k →
 basculeref01_Pack.l0 k l ((List.range j).map fun j => part l (8 * j) 8) ((8 * j : Nat) : Int) = some (packs l)
 | 0, j, k, hj, hk => by
  obtain ⟨k, rfl⟩ := Nat.exists_eq_add_of_le' (show 1 ≤ k by omega)
  unfold basculeref01_Pack.l0
  rw [if_neg (by omega)]
  unfold packs
  rw [← hj, Nat.add_zero]
 | d + 1, j, k, hj, hk => by
  obtain ⟨k, rfl⟩ := Nat.exists_eq_add_of_le' (show 20 * d + 10 + 1 ≤ k by omega)
  have : k + (20 * d + 10 + 1) = (k + 20 * d + 1 + 8 + 1) + 1 := by omega
  rw [this]
  unfold basculeref01_Pack.l0
  rw [if_pos (by omega)]
  refine rp_l1' l hb hl _ (by simp; omega) (8 * j) (by omega) _ 8 0 (k + 20 * d + 1) (by omega) (fun k' hk' => ?_)
  have := rp_l0 l hb hl d (j + 1) k' (by omega) (by omega)
  rw [List.range_succ, List.map_append] at this
  rw [show 8 * j + 8 = 8 * (j + 1) from by omega]
  exact this
theorem refpack_f (l : List Int) (hb : Bits l) (hl : l.length ≤ 1000000000000) (k : Nat) (hk : 3 * l.length + 100 ≤ k) : basculeref01_Pack.f k l = some (packs l) := by
 unfold basculeref01_Pack.f
 exact rp_l0 l hb hl ((l.length + 7) / 8) 0 k (by omega) (by omega)
theorem or_step (p : Int) (m : Nat) (hm : m < 8) (h : 0 ≤ p ∧ p < 2 ^ m) : Go.bits .or .u8 p (shl .u8 1 (m : Int)) = p + 2 ^ m := by
 obtain ⟨q, rfl⟩ := Int.eq_ofNat_of_zero_le h.1
 have h2 : q < 2 ^ m := by have := h.2; exact_mod_cast this
 have h3 : (2 : Nat) ^ m ≤ 2 ^ 7 := Nat.pow_le_pow_right (by omega) (by omega)
 exact or_bit ⟨m, hm⟩ ⟨q, by omega⟩ h2
def upto (l : List Int) (n i : Nat) : List Int := (List.range n).map fun j => part l (8 * j) (min 8 (i - 8 * j))
theorem upto_len (l : List Int) (n i : Nat) : (upto l n i).length = n := by simp [upto]
theorem upto_rd (l : List Int) (n i j : Nat) (h : j < n) : rd (upto l n i) (j : Int) = part l (8 * j) (min 8 (i - 8 * j)) := by
 unfold rd
 rw [Int.toNat_natCast, List.getD_eq_getElem?_getD, List.getElem?_eq_getElem (by rw [upto_len]; exact h)]
 simp [upto]
theorem upto_zero (l : List Int) (n i : Nat) (hn : i / 8 < n) (h : rd l (i : Int) = 0) : upto l n (i + 1) = upto l n i := by
 unfold upto
 apply List.map_congr_left
 intro j hj
 by_cases hc : i / 8 = j
 ·subst hc
  rw [show min 8 (i + 1 - 8 * (i / 8)) = min 8 (i - 8 * (i / 8)) + 1 from by omega]
  show _ + 2 ^ _ * rd l ((8 * (i / 8) + min 8 (i - 8 * (i / 8)) : Nat) : Int) = _
  rw [show 8 * (i / 8) + min 8 (i - 8 * (i / 8)) = i from by omega, h]
  omega
 ·rw [show min 8 (i + 1 - 8 * j) = min 8 (i - 8 * j) from by omega]
theorem upto_one (l : List Int) (hb : Bits l) (n i : Nat) (hn : i / 8 < n) (h : rd l (i : Int) = 1) :
 (upto l n i).set (i / 8) (Go.bits .or .u8 (rd (upto l n i) ((i / 8 : Nat) : Int)) (shl .u8 1 ((i % 8 : Nat) : Int))) = upto l n (i + 1) := by
 rw [upto_rd l n i (i / 8) hn, show min 8 (i - 8 * (i / 8)) = i % 8 from by omega, or_step _ _ (by omega) (part_range hb _ _)]
 apply List.ext_getElem
 ·simp [upto]
 intro j h1 h2
 have hj : j < n := by rw [upto_len] at h2; exact h2
 rw [List.getElem_set]
 by_cases hc : i / 8 = j
 ·subst hc
  rw [if_pos rfl]
  simp only [upto, List.getElem_map, List.getElem_range]
  rw [show min 8 (i + 1 - 8 * (i / 8)) = i % 8 + 1 from by omega]
  show _ = _ + 2 ^ _ * rd l ((8 * (i / 8) + i % 8 : Nat) : Int)
  rw [show 8 * (i / 8) + i % 8 = i from by omega, h, Int.mul_one]
 ·rw [if_neg hc]
  simp only [upto, List.getElem_map, List.getElem_range]
  rw [show min 8 (i + 1 - 8 * j) = min 8 (i - 8 * j) from by omega]
theorem upto_end (l : List Int) : upto l ((l.length + 7) / 8) l.length = packs l := by
 unfold upto packs
 apply List.map_congr_left
 intro j hj
 have hj := List.mem_range.1 hj
 by_cases hc : 8 * j + 8 ≤ l.length
 ·rw [show min 8 (l.length - 8 * j) = 8 from by omega]
 ·have := part_beyond l (8 * j) (8 - (l.length - 8 * j)) (l.length - 8 * j) (by omega)
  rw [show l.length - 8 * j + (8 - (l.length - 8 * j)) = 8 from by omega] at this
  rw [this, show min 8 (l.length - 8 * j) = l.length - 8 * j from by omega]
theorem wp_l0 (l : List Int) (hb : Bits l) (hl : l.length ≤ 1000000000000) : ∀ (d i k : Nat), i + d = l.length → d + 1 ≤ k →
 wire_Pack.l0 k (upto l ((l.length + 7) / 8) i) l (l.length : Int) (i : Int) = some (packs l, 0)
 | 0, i, k, hi, hk => by
  obtain ⟨k, rfl⟩ := Nat.exists_eq_add_of_le' (show 1 ≤ k by omega)
  unfold wire_Pack.l0
  rw [if_neg (by omega), show i = l.length from by omega, upto_end]
 | d + 1, i, k, hi, hk => by
  obtain ⟨k, rfl⟩ := Nat.exists_eq_add_of_le' (show 1 ≤ k by omega)
  have hw : wrap64 ((i : Int) + 1) = ((i + 1 : Nat) : Int) := by rw [wrap64_id _ (by omega) (by omega)]; omega
  have ih := wp_l0 l hb hl d (i + 1) k (by omega) (by omega)
  unfold wire_Pack.l0
  rw [if_pos (by omega), if_pos (by omega), if_pos (by omega), hw]
  rcases bits_rd hb (i : Int) with h | h
  ·rw [if_pos h, ← upto_zero l _ i (by omega) h]
   exact ih
  ·rw [if_neg (by omega), if_pos h, tdiv8 i (by omega), tmod8, if_pos (by omega), if_pos (by rw [upto_len]; omega), if_pos (by omega), Int.toNat_natCast, upto_one l hb _ i (by omega) h]
   exact ih
theorem upto_nought (l : List Int) (n : Nat) : List.replicate n (0 : Int) = upto l n 0 := by
 unfold upto
 apply List.ext_getElem
 ·simp
 intro i h1 h2
 simp [part]
theorem pack_start (l : List Int) (hl : l.length ≤ 1000000000000) (k : Nat) : wire_Pack.f k l = wire_Pack.l0 k (upto l ((l.length + 7) / 8) 0) l (l.length : Int) 0 := by
 unfold wire_Pack.f
 have hw : wrap64 ((l.length : Int) + 7) = ((l.length + 7 : Nat) : Int) := by rw [wrap64_id _ (by omega) (by omega)]; omega
 rw [hw, tdiv8 _ (by omega), if_pos (by omega), if_pos (by omega), Int.toNat_natCast, upto_nought]
theorem pack_yes (l : List Int) (hb : Bits l) (hl : l.length ≤ 1000000000000) (k : Nat) (hk : l.length + 1 ≤ k) : wire_Pack.f k l = some (packs l, 0) := by
 rw [pack_start l hl]
 exact wp_l0 l hb hl l.length 0 k (by omega) hk
theorem ints_l0 (l : List Int) (hl : l.length ≤ 1000000000000) : ∀ (d i k : Nat), i + d = l.length → d + 1 ≤ k → basculeref01_Ints.l0 k l l (i : Int) = some true
 | 0, i, k, hi, hk => by
  obtain ⟨k, rfl⟩ := Nat.exists_eq_add_of_le' (show 1 ≤ k by omega)
  unfold basculeref01_Ints.l0
  rw [if_neg (by omega)]
 | d + 1, i, k, hi, hk => by
  obtain ⟨k, rfl⟩ := Nat.exists_eq_add_of_le' (show 1 ≤ k by omega)
  have hw : wrap64 ((i : Int) + 1) = ((i + 1 : Nat) : Int) := by rw [wrap64_id _ (by omega) (by omega)]; omega
  unfold basculeref01_Ints.l0
  rw [if_pos (by omega), if_pos (by omega), if_pos (by omega), if_pos rfl, hw]
  exact ints_l0 l hl d (i + 1) k (by omega) (by omega)
theorem ints_f (l : List Int) (hl : l.length ≤ 1000000000000) (k : Nat) (hk : l.length + 1 ≤ k) : basculeref01_Ints.f k l l = some true := by
 unfold basculeref01_Ints.f
 rw [if_pos rfl]
 exact ints_l0 l hl l.length 0 k (by omega) hk
theorem and_step (x : Int) (m : Nat) (hm : m < 8) (h : 0 ≤ x ∧ x < 256) : Go.bits .and .i64 (wrap64 (shr .u8 x (m : Int))) 1 = x / 2 ^ m % 2 := by
 obtain ⟨q, rfl⟩ := Int.eq_ofNat_of_zero_le h.1
 exact and_bit ⟨m, hm⟩ ⟨q, by omega⟩
theorem unbits_len (b : List Int) (n : Nat) : (unbits b n).length = n := by simp [unbits]
theorem wu_l0 (b : List Int) (hb : Bytes b) (n : Nat) (hn : n ≤ 8 * b.length) (hl : b.length ≤ 1000000000000) : ∀ (d i k : Nat), i + d = n → d + 1 ≤ k →
 wire_Unpack.l0 k b ((unbits b n).take i ++ List.replicate (n - i) 0) (n : Int) (i : Int) = some (unbits b n, 0)
 | 0, i, k, hi, hk => by
  obtain ⟨k, rfl⟩ := Nat.exists_eq_add_of_le' (show 1 ≤ k by omega)
  unfold wire_Unpack.l0
  rw [if_neg (by omega), show n - i = 0 from by omega, List.replicate_zero, List.append_nil, List.take_of_length_le (by rw [unbits_len]; omega)]
 | d + 1, i, k, hi, hk => by
  obtain ⟨k, rfl⟩ := Nat.exists_eq_add_of_le' (show 1 ≤ k by omega)
  have hw : wrap64 ((i : Int) + 1) = ((i + 1 : Nat) : Int) := by rw [wrap64_id _ (by omega) (by omega)]; omega
  have hlt : i < (unbits b n).length := by rw [unbits_len]; omega
  have ih := wu_l0 b hb n hn hl d (i + 1) k (by omega) (by omega)
  have hset : ((unbits b n).take i ++ List.replicate (n - i) 0).set i (bitOf b i) = (unbits b n).take (i + 1) ++ List.replicate (n - (i + 1)) 0 := by
   rw [List.set_append_right _ _ (by rw [List.length_take, unbits_len]; omega), show i - ((unbits b n).take i).length = 0 from by rw [List.length_take, unbits_len]; omega, show n - i = (n - (i + 1)) + 1 from by omega, List.replicate_succ, List.set_cons_zero, List.take_succ_eq_append_getElem hlt, List.append_assoc]
   simp [unbits]
  unfold wire_Unpack.l0
  rw [if_pos (by omega), tdiv8 i (by omega), tmod8, if_pos (by omega), if_pos (by omega), if_pos (by omega), if_pos (by omega), if_pos (by rw [List.length_append, List.length_take, unbits_len, List.length_replicate]; omega), hw, and_step _ _ (by omega) (bytes_rd hb _), Int.toNat_natCast]
  show wire_Unpack.l0 k b (List.set _ i (bitOf b i)) _ _ = _
  rw [hset]
  exact ih
theorem unpack_yes (b : List Int) (hb : Bytes b) (n : Nat) (hn : n ≤ 8 * b.length) (hl : b.length ≤ 1000000000000) (k : Nat) (hk : n + 1 ≤ k) : wire_Unpack.f k b (n : Int) = some (unbits b n, 0) := by
 unfold wire_Unpack.f
 rw [wrap64_id (8 * (b.length : Int)) (by omega) (by omega), if_neg (by omega), if_neg (by omega), if_pos (by omega), if_pos (by omega), Option.bind_some, Int.toNat_natCast, List.length_replicate]
 have := wu_l0 b hb n hn hl n 0 k (by omega) hk
 rw [List.take_zero, List.nil_append] at this
 exact this
end Go.Proofs.Ytlalpooiegganaa.MathP
end

section
namespace Go.Proofs.Ytlalpooiegganaa.Mth
open Go.RowKit Go.Proofs.YtlalpooiegganaaW.PrintWords Go.Proofs.YtlalpooiegganaaW.PrintLast Go.Proofs.YtlalpooiegganaaW.PrintMore Go.Proofs.Ytlalpooiegganaa.Ext Go.Proofs.Ytlalpooiegganaa.ExtF Go.Proofs.Ytlalpooiegganaa.PP Go.Proofs.Ytlalpooiegganaa.PG Go.Proofs.Ytlalpooiegganaa.ExtM Go.Proofs.Ytlalpooiegganaa.MathP Go.Proofs.Ytlalpooiegganaa.PG
set_option linter.unusedVariables false
set_option linter.unusedSimpArgs false
theorem within_f (a lo hi : Int) : pdu_within.f a lo hi = some (decide (lo ≤ a ∧ a ≤ hi)) := by
 unfold pdu_within.f
 by_cases h : a ≥ lo
 ·rw [if_pos h]; exact congrArg some (decide_eq_decide.2 (by omega))
 ·rw [if_neg h]; exact congrArg some (decide_eq_false (by omega)).symm
def Low (m : Int) (l : List Int) : Prop := ∀ x ∈ l, 0 ≤ x ∧ x ≤ m
instance (m : Int) (l : List Int) : Decidable (Low m l) := by unfold Low; infer_instance
theorem all_l0 (l : List Int) (m : Int) (hl : l.length ≤ 1000000000000) : ∀ (d i k : Nat), i + d = l.length → d + 1 ≤ k → pdu_all.l0 k m l (l.length : Int) (i : Int) = some (decide (Low m (l.drop i)))
 | 0, i, k, hi, hk => by
  obtain ⟨k, rfl⟩ := Nat.exists_eq_add_of_le' (show 1 ≤ k by omega)
  unfold pdu_all.l0
  rw [if_neg (by omega), List.drop_of_length_le (by omega)]
  exact congrArg some (decide_eq_true (fun x hx => by cases hx)).symm
 | d + 1, i, k, hi, hk => by
  obtain ⟨k, rfl⟩ := Nat.exists_eq_add_of_le' (show 1 ≤ k by omega)
  have hw : wrap64 ((i : Int) + 1) = ((i + 1 : Nat) : Int) := by rw [wrap64_id _ (by omega) (by omega)]; omega
  have hlt : i < l.length := by omega
  have hrd : rd l (i : Int) = l[i] := by simp [rd, List.getElem?_eq_getElem hlt]
  have hcons : l.drop i = l[i] :: l.drop (i + 1) := List.drop_eq_getElem_cons hlt
  unfold pdu_all.l0
  rw [if_pos (by omega), if_pos (by omega), if_pos (by omega), hw, within_f, Option.bind_some, hrd, hcons]
  have e : Low m (l[i] :: l.drop (i + 1)) ↔ (0 ≤ l[i] ∧ l[i] ≤ m) ∧ Low m (l.drop (i + 1)) := List.forall_mem_cons
  by_cases h : 0 ≤ l[i] ∧ l[i] ≤ m
  ·rw [if_pos (by rw [decide_eq_true_eq]; exact h), all_l0 l m hl d (i + 1) k (by omega) (by omega)]
   congr 1; rw [decide_eq_decide, e]; exact ⟨fun x => ⟨h, x⟩, fun x => x.2⟩
  ·rw [if_neg (by rw [decide_eq_true_eq]; exact h)]
   congr 1; rw [eq_comm, decide_eq_false_iff_not, e]; exact fun x => h x.1
theorem all_f (l : List Int) (m : Int) (hl : l.length ≤ 1000000000000) (k : Nat) (hk : l.length + 1 ≤ k) : pdu_all.f k l m = some (decide (Low m l)) := by
 have := all_l0 l m hl l.length 0 k (by omega) (by omega)
 unfold pdu_all.f
 rw [List.drop_zero] at this
 exact this
theorem low_one (l : List Int) : Low 1 l ↔ Bits l := by
 unfold Low Bits
 exact ⟨fun h x hx => by have := h x hx; omega, fun h x hx => by have := h x hx; omega⟩
theorem beq_dec (a b : Int) : (a == b) = decide (a = b) := by rw [Bool.eq_iff_iff]; simp
theorem check_f (k : Nat) (fn a1 a2 : Int) (l : List Int) (a4 a5 a6 : Int) (hl : l.length ≤ 1000000000000) (hk : l.length + 10 ≤ k) :
 pdu_Check.f fn a1 a2 l a4 a5 a6 = some (if mayB fn a1 a2 l a4 a5 a6 then 0 else 1) := rfl
end Go.Proofs.Ytlalpooiegganaa.Mth
end

section
namespace Go.Proofs.Ytlalpooiegganaa.Mth
open Go.RowKit Go.Proofs.YtlalpooiegganaaW.PrintWords Go.Proofs.YtlalpooiegganaaW.PrintLast Go.Proofs.YtlalpooiegganaaW.PrintMore Go.Proofs.Ytlalpooiegganaa.Ext Go.Proofs.Ytlalpooiegganaa.ExtF Go.Proofs.Ytlalpooiegganaa.PP Go.Proofs.Ytlalpooiegganaa.PG Go.Proofs.Ytlalpooiegganaa.ExtM Go.Proofs.Ytlalpooiegganaa.MathP Go.Proofs.Ytlalpooiegganaa.PG
set_option linter.unusedVariables false
set_option linter.unusedSimpArgs false
def tailB (fn a2 : Int) (l : List Int) (a4 a5 a6 : Int) : List Int :=
 if fn = 5 then lays [65280 * rd l 0]
 else if fn = 6 then lays [rd l 0]
 else if fn = 22 then lays [a5, a6]
 else if fn = 15 then lays [a2] ++ (((packs l).length : Int) % 256 :: packs l)
 else if fn = 23 then lays [a2, a4, (l.length : Int)] ++ (((lays l).length : Int) % 256 :: lays l)
 else if fn = 16 then lays [a2] ++ (((lays l).length : Int) % 256 :: lays l)
 else lays [a2]
def reqB (fn a1 a2 : Int) (l : List Int) (a4 a5 a6 : Int) : List Int := ([fn % 256] ++ lays [a1]) ++ tailB fn a2 l a4 a5 a6
theorem lay_f (l m : List Int) (h : m ≠ []) (hw : Words m) (h0 : l.length ≤ 100000000) (h1 : m.length ≤ 100000000) : pdu_lay.f l m = some (l ++ lays m) := by
 unfold pdu_lay.f
 rw [if_pos ⟨h, hw, h0, h1⟩]
theorem words1 {a : Int} (h : 0 ≤ a ∧ a ≤ 65535) : Words [a] := by intro x hx; simp only [List.mem_singleton] at hx; subst hx; exact h
theorem words2 {a b : Int} (h : 0 ≤ a ∧ a ≤ 65535) (h2 : 0 ≤ b ∧ b ≤ 65535) : Words [a, b] := by
 intro x hx; simp only [List.mem_cons, List.not_mem_nil, or_false] at hx; rcases hx with rfl | rfl <;> assumption
theorem words3 {a b c : Int} (h : 0 ≤ a ∧ a ≤ 65535) (h2 : 0 ≤ b ∧ b ≤ 65535) (h3 : 0 ≤ c ∧ c ≤ 65535) : Words [a, b, c] := by
 intro x hx; simp only [List.mem_cons, List.not_mem_nil, or_false] at hx; rcases hx with rfl | rfl | rfl <;> assumption
theorem words4 {a b c d : Int} (h : 0 ≤ a ∧ a ≤ 65535) (h2 : 0 ≤ b ∧ b ≤ 65535) (h3 : 0 ≤ c ∧ c ≤ 65535) (h4 : 0 ≤ d ∧ d ≤ 65535) : Words [a, b, c, d] := by
 intro x hx; simp only [List.mem_cons, List.not_mem_nil, or_false] at hx; rcases hx with rfl | rfl | rfl | rfl <;> assumption
theorem pcounted_f (l m : List Int) (h0 : l.length ≤ 100000000) (h1 : m.length ≤ 100000000) : PG.pdu_counted.f l m = some (l ++ ((m.length : Int) % 256 :: m)) := by
 unfold PG.pdu_counted.f
 rw [if_pos (by omega), Option.bind_some, if_pos (by simp; omega)]
 simp
theorem packs_len (l : List Int) : (packs l).length = (l.length + 7) / 8 := by simp [packs]
theorem ppacked_f (l : List Int) (hb : Bits l) (hl : l.length ≤ 1000000000000) (k : Nat) (hk : l.length + 1 ≤ k) : pdu_packed.f k l = some (packs l) := by
 unfold pdu_packed.f
 rw [pack_yes l hb hl k hk, Option.bind_some]
structure MayIs (fn a1 a2 : Int) (l : List Int) (a4 a5 a6 : Int) : Prop where
 addr : 0 ≤ a1 ∧ a1 ≤ 65535
 fns : fn = 1 ∨ fn = 2 ∨ fn = 3 ∨ fn = 4 ∨ fn = 5 ∨ fn = 6 ∨ fn = 15 ∨ fn = 16 ∨ fn = 22 ∨ fn = 23
 len : l.length ≤ 1968
 nov : fn = 1 ∨ fn = 2 ∨ fn = 3 ∨ fn = 4 ∨ fn = 22 → l = []
 cnt : fn = 1 ∨ fn = 2 ∨ fn = 3 ∨ fn = 4 ∨ fn = 23 → 1 ≤ a2 ∧ a2 ≤ 2000
 regs : fn = 3 ∨ fn = 4 ∨ fn = 23 → a2 ≤ 125
 cnt0 : fn = 5 ∨ fn = 6 ∨ fn = 22 → a2 = 0
 cntl : fn = 15 ∨ fn = 16 → a2 = (l.length : Int)
 one : fn = 5 ∨ fn = 6 → l.length = 1
 bits : fn = 5 ∨ fn = 15 → Bits l
 wrds : fn = 6 ∨ fn = 16 ∨ fn = 23 → Words l
 many : fn = 15 ∨ fn = 16 ∨ fn = 23 → 1 ≤ l.length
 most : fn = 16 ∨ fn = 23 → l.length ≤ 123
 to0 : fn ≠ 23 → a4 = 0
 tow : 0 ≤ a4 ∧ a4 ≤ 65535
 m0 : fn ≠ 22 → a5 = 0 ∧ a6 = 0
 m : (0 ≤ a5 ∧ a5 ≤ 65535) ∧ (0 ≤ a6 ∧ a6 ≤ 65535)
theorem valB_true {bit : Bool} {l : List Int} {lo hi : Nat} (h : valB bit l lo hi = true) : (lo ≤ l.length ∧ l.length ≤ hi) ∧ (bit = true → Bits l) ∧ (bit = false → Words l) := by
 unfold valB at h
 rw [Bool.and_eq_true, decide_eq_true_eq] at h
 refine ⟨h.1, fun e => ?_, fun e => ?_⟩ <;> (subst e; simpa using h.2)
theorem may_is {fn a1 a2 : Int} {l : List Int} {a4 a5 a6 : Int} (h : mayB fn a1 a2 l a4 a5 a6 = true) : MayIs fn a1 a2 l a4 a5 a6 := by
 unfold mayB at h
 split at h
 ·next c =>
  simp only [Bool.and_eq_true, beq_iff_eq, decide_eq_true_eq, spanB] at h
  obtain ⟨⟨⟨⟨⟨hn, h5, h6⟩, h4⟩, h1⟩, h2⟩, h3⟩ := h
  obtain rfl : l = [] := List.length_eq_zero_iff.1 (by omega)
  exact ⟨by omega, by omega, by simp, fun _ => rfl, fun _ => by omega, fun _ => by omega, fun _ => by omega, fun _ => by omega, fun _ => by omega, fun _ _ hx => (List.not_mem_nil hx).elim, fun _ _ hx => (List.not_mem_nil hx).elim, fun _ => by omega, fun _ => by simp, fun _ => h4, by omega, fun _ => ⟨h5, h6⟩, by omega⟩
 split at h
 ·next c0 c =>
  simp only [Bool.and_eq_true, beq_iff_eq, decide_eq_true_eq, spanB] at h
  obtain ⟨⟨⟨⟨⟨hn, h5, h6⟩, h4⟩, h1⟩, h2⟩, h3⟩ := h
  obtain rfl : l = [] := List.length_eq_zero_iff.1 (by omega)
  exact ⟨by omega, by omega, by simp, fun _ => rfl, fun _ => by omega, fun _ => by omega, fun _ => by omega, fun _ => by omega, fun _ => by omega, fun _ _ hx => (List.not_mem_nil hx).elim, fun _ _ hx => (List.not_mem_nil hx).elim, fun _ => by omega, fun _ => by simp, fun _ => h4, by omega, fun _ => ⟨h5, h6⟩, by omega⟩
 split at h
 ·next c0 c1 c =>
  simp only [Bool.and_eq_true, beq_iff_eq, decide_eq_true_eq, spanB] at h
  obtain ⟨⟨⟨⟨⟨h5, h6⟩, h4⟩, h2⟩, hv⟩, h3⟩ := h
  obtain ⟨hl, hb, _⟩ := valB_true hv
  exact ⟨by omega, by omega, by omega, fun _ => by omega, fun _ => by omega, fun _ => by omega, fun _ => by omega, fun _ => by omega, fun _ => by omega, fun _ => hb rfl, fun _ => by omega, fun _ => by omega, fun _ => by omega, fun _ => h4, by omega, fun _ => ⟨h5, h6⟩, by omega⟩
 split at h
 ·next c0 c1 c2 c =>
  simp only [Bool.and_eq_true, beq_iff_eq, decide_eq_true_eq, spanB] at h
  obtain ⟨⟨⟨⟨⟨h5, h6⟩, h4⟩, h2⟩, hv⟩, h3⟩ := h
  obtain ⟨hl, _, hb⟩ := valB_true hv
  exact ⟨by omega, by omega, by omega, fun _ => by omega, fun _ => by omega, fun _ => by omega, fun _ => by omega, fun _ => by omega, fun _ => by omega, fun _ => by omega, fun _ => hb rfl, fun _ => by omega, fun _ => by omega, fun _ => h4, by omega, fun _ => ⟨h5, h6⟩, by omega⟩
 split at h
 ·next c0 c1 c2 c3 c =>
  simp only [Bool.and_eq_true, beq_iff_eq, decide_eq_true_eq, spanB] at h
  obtain ⟨⟨⟨⟨⟨h5, h6⟩, h4⟩, h2⟩, hv⟩, h3⟩ := h
  obtain ⟨hl, hb, _⟩ := valB_true hv
  exact ⟨by omega, by omega, by omega, fun _ => by omega, fun _ => by omega, fun _ => by omega, fun _ => by omega, fun _ => h2, fun _ => by omega, fun _ => hb rfl, fun _ => by omega, fun _ => by omega, fun _ => by omega, fun _ => h4, by omega, fun _ => ⟨h5, h6⟩, by omega⟩
 split at h
 ·next c0 c1 c2 c3 c4 c =>
  simp only [Bool.and_eq_true, beq_iff_eq, decide_eq_true_eq, spanB] at h
  obtain ⟨⟨⟨⟨⟨h5, h6⟩, h4⟩, h2⟩, hv⟩, h3⟩ := h
  obtain ⟨hl, _, hb⟩ := valB_true hv
  exact ⟨by omega, by omega, by omega, fun _ => by omega, fun _ => by omega, fun _ => by omega, fun _ => by omega, fun _ => h2, fun _ => by omega, fun _ => by omega, fun _ => hb rfl, fun _ => by omega, fun _ => by omega, fun _ => h4, by omega, fun _ => ⟨h5, h6⟩, by omega⟩
 split at h
 ·next c0 c1 c2 c3 c4 c5 c =>
  simp only [Bool.and_eq_true, beq_iff_eq, decide_eq_true_eq, spanB, isB] at h
  obtain ⟨⟨⟨⟨⟨hn, h4⟩, h2⟩, h3⟩, h5⟩, h6⟩ := h
  obtain rfl : l = [] := List.length_eq_zero_iff.1 (by omega)
  exact ⟨by omega, by omega, by simp, fun _ => rfl, fun _ => by omega, fun _ => by omega, fun _ => by omega, fun _ => by omega, fun _ => by omega, fun _ _ hx => (List.not_mem_nil hx).elim, fun _ _ hx => (List.not_mem_nil hx).elim, fun _ => by omega, fun _ => by simp, fun _ => h4, by omega, fun _ => by omega, by omega⟩
 split at h
 ·next c0 c1 c2 c3 c4 c5 c6 c =>
  simp only [Bool.and_eq_true, beq_iff_eq, decide_eq_true_eq, spanB, isB] at h
  obtain ⟨⟨⟨⟨⟨⟨h5, h6⟩, h1⟩, h2⟩, h3⟩, hv⟩, h7⟩ := h
  obtain ⟨hl, _, hb⟩ := valB_true hv
  exact ⟨by omega, by omega, by omega, fun _ => by omega, fun _ => by omega, fun _ => by omega, fun _ => by omega, fun _ => by omega, fun _ => by omega, fun _ => by omega, fun _ => hb rfl, fun _ => by omega, fun _ => by omega, fun _ => by omega, by omega, fun _ => ⟨h5, h6⟩, by omega⟩
 ·cases h
theorem bytes_yes (k : Nat) (fn a1 a2 : Int) (l : List Int) (a4 a5 a6 : Int) (hk : 3000 ≤ k) (h : mayB fn a1 a2 l a4 a5 a6 = true) :
 pdu_Bytes.f k fn a1 a2 l a4 a5 a6 = some (reqB fn a1 a2 l a4 a5 a6, 0) := by
 have I := may_is h
 have hlen := I.len
 unfold pdu_Bytes.f
 rw [check_f k fn a1 a2 l a4 a5 a6 (by omega) (by omega), h, Option.bind_some, if_pos (by decide), lay_f _ [a1] (by simp) (words1 I.addr) (by simp) (by simp), Option.bind_some]
 unfold reqB
 have hl2 : ([fn % 256] ++ lays [a1]).length ≤ 100 := by simp [lays_len]
 generalize ([fn % 256] ++ lays [a1]) = p at *
 unfold tailB
 by_cases c5 : fn = 5
 ·have h1 := I.one (Or.inl c5)
  have hb := bits_rd (I.bits (Or.inl c5)) 0
  have hw : wrap64 (65280 * rd l 0) = 65280 * rd l 0 := wrap64_id _ (by omega) (by omega)
  rw [if_pos c5, if_pos c5, if_pos (by omega), hw, lay_f _ _ (by simp) (words1 (by omega)) (by omega) (by simp), Option.bind_some]
 rw [if_neg c5, if_neg c5]
 by_cases c6 : fn = 6
 ·have h1 := I.one (Or.inr c6)
  have hb : 0 ≤ rd l 0 ∧ rd l 0 ≤ 65535 := by
   have hlt : 0 < l.length := by omega
   have hrd : rd l 0 = l[0] := by simp [rd, List.getElem?_eq_getElem hlt]
   rw [hrd]; exact I.wrds (Or.inl c6) _ (List.getElem_mem hlt)
  rw [if_pos c6, if_pos c6, if_pos (by omega), lay_f _ _ (by simp) (words1 hb) (by omega) (by simp), Option.bind_some]
 rw [if_neg c6, if_neg c6]
 by_cases c22 : fn = 22
 ·rw [if_pos c22, if_pos c22, lay_f _ _ (by simp) (words2 I.m.1 I.m.2) (by omega) (by simp), Option.bind_some]
 rw [if_neg c22, if_neg c22]
 by_cases c15 : fn = 15
 ·have hc := I.cntl (Or.inl c15)
  rw [if_pos c15, if_pos c15, lay_f _ [a2] (by simp) (words1 (by omega)) (by omega) (by simp), Option.bind_some, ppacked_f l (I.bits (Or.inr c15)) (by omega) k (by omega), Option.bind_some, pcounted_f _ _ (by simp [lays_len]; omega) (by rw [packs_len]; omega), Option.bind_some, List.append_assoc]
 rw [if_neg c15, if_neg c15]
 by_cases c23 : fn = 23
 ·have hc := I.cnt (by omega)
  have hm := I.many (by omega)
  have hne : l ≠ [] := by intro e; rw [e] at hm; simp at hm
  rw [if_pos c23, if_pos c23, lay_f _ [a2, a4, (l.length : Int)] (by simp) (words3 (by omega) I.tow (by omega)) (by omega) (by simp), Option.bind_some, lay_f [] l hne (I.wrds (by omega)) (by simp) (by omega), Option.bind_some, List.nil_append, pcounted_f _ _ (by simp [lays_len]; omega) (by rw [lays_len]; omega), Option.bind_some, List.append_assoc]
 rw [if_neg c23, if_neg c23]
 by_cases c16 : fn = 16
 ·have hc := I.cntl (Or.inr c16)
  have hm := I.many (by omega)
  have hne : l ≠ [] := by intro e; rw [e] at hm; simp at hm
  rw [if_pos c16, if_pos c16, lay_f _ [a2] (by simp) (words1 (by omega)) (by omega) (by simp), Option.bind_some, lay_f [] l hne (I.wrds (by omega)) (by simp) (by omega), Option.bind_some, List.nil_append, pcounted_f _ _ (by simp [lays_len]; omega) (by rw [lays_len]; omega), Option.bind_some, List.append_assoc]
 rw [if_neg c16, if_neg c16]
 have hc := I.cnt (by have := I.fns; omega)
 rw [lay_f _ [a2] (by simp) (words1 (by omega)) (by omega) (by simp), Option.bind_some]
theorem rword_f (a : Int) (h : 0 ≤ a ∧ a ≤ 65535) : basculeref01_Word.f a = some [a / 256, a % 256] := by
 unfold basculeref01_Word.f
 rw [Int.tdiv_eq_ediv_of_nonneg (by omega), Int.tmod_eq_emod_of_nonneg (by omega), wrap64_id _ (by omega) (by omega), show a / 256 % 256 = a / 256 from by omega, show a % 256 % 256 = a % 256 from by omega]
theorem rlay_l0 (l : List Int) (hw : Words l) (hl : l.length ≤ 1000000000) : ∀ (d i k : Nat), i + d = l.length → d + 1 ≤ k → basculeref03_lay.l0 k l (lays (l.take i)) (i : Int) = some (lays l)
 | 0, i, k, hi, hk => by
  obtain ⟨k, rfl⟩ := Nat.exists_eq_add_of_le' (show 1 ≤ k by omega)
  unfold basculeref03_lay.l0
  rw [if_neg (by omega), List.take_of_length_le (by omega)]
 | d + 1, i, k, hi, hk => by
  obtain ⟨k, rfl⟩ := Nat.exists_eq_add_of_le' (show 1 ≤ k by omega)
  have hwr : wrap64 ((i : Int) + 1) = ((i + 1 : Nat) : Int) := by rw [wrap64_id _ (by omega) (by omega)]; omega
  have hlt : i < l.length := by omega
  have hrd : rd l (i : Int) = l[i] := by simp [rd, List.getElem?_eq_getElem hlt]
  unfold basculeref03_lay.l0
  rw [if_pos (by omega), if_pos (by omega), hrd, rword_f _ (hw _ (List.getElem_mem hlt)), Option.bind_some, if_pos (by rw [lays_len, List.length_take]; simp; omega), hwr, ← lays_snoc, ← List.take_succ_eq_append_getElem hlt]
  exact rlay_l0 l hw hl d (i + 1) k (by omega) (by omega)
theorem rlay_f (l : List Int) (hw : Words l) (hl : l.length ≤ 1000000000) (k : Nat) (hk : l.length + 1 ≤ k) : basculeref03_lay.f k l = some (lays l) := by
 unfold basculeref03_lay.f
 exact rlay_l0 l hw hl l.length 0 k (by omega) (by omega)
theorem both_f (l m : List Int) (h0 : l.length ≤ 100000000) (h1 : m.length ≤ 100000000) : basculeref01_Both.f l m = some (l ++ m) := by
 unfold basculeref01_Both.f
 rw [if_pos (by simp; omega), Option.bind_some, if_pos (by simp; omega)]
 rfl
theorem rcounted_f (m : List Int) (h1 : m.length ≤ 100000000) : basculeref03_counted.f m = some ((m.length : Int) % 256 :: m) := by
 unfold basculeref03_counted.f
 rw [both_f _ _ (by simp) h1, Option.bind_some]
 rfl
theorem rbytes_yes (k : Nat) (fn a1 a2 : Int) (l : List Int) (a4 a5 a6 : Int) (hk : 10000 ≤ k) (h : mayB fn a1 a2 l a4 a5 a6 = true) :
 basculeref03_Bytes.f k fn a1 a2 l a4 a5 a6 = some (reqB fn a1 a2 l a4 a5 a6) := by
 have I := may_is h
 have hlen := I.len
 have hfn := I.fns
 have ha := I.addr
 obtain ⟨k, rfl⟩ : ∃ m, k = m + 1 := ⟨k - 1, by omega⟩
 have e : basculeref03_Bytes.f (k + 1) fn a1 a2 l a4 a5 a6 = basculeref03_Bytes.j0 (k + 1) [fn % 256] fn (decide (fn = 1 ∨ fn = 2 ∨ fn = 3 ∨ fn = 4)) fn a1 a2 l a4 a5 a6 := by
  unfold basculeref03_Bytes.f
  rw [Option.bind_some]
  by_cases c1 : fn = 1
  ·subst c1; rfl
  by_cases c2 : fn = 2
  ·subst c2; rfl
  by_cases c3 : fn = 3
  ·subst c3; rfl
  rw [if_neg c1, if_neg c2, if_neg c3]
  congr 1
  rw [beq_dec, decide_eq_decide]
  omega
 rw [e]
 rw [basculeref03_Bytes.j0]
 unfold reqB
 have hl2 : (lays [a1]).length = 2 := by simp [lays_len]
 have happ : ∀ x m, lays (x :: m) = lays [x] ++ lays m := fun x m => by simp [lays]
 unfold tailB
 by_cases cr : fn = 1 ∨ fn = 2 ∨ fn = 3 ∨ fn = 4
 ·have hc := I.cnt (by omega)
  rw [if_pos (decide_eq_true cr), rlay_f _ (words2 ha (by omega)) (by simp) k (by simp; omega), Option.bind_some, if_pos (by simp [lays_len]), if_neg (by omega), if_neg (by omega), if_neg (by omega), if_neg (by omega), if_neg (by omega), if_neg (by omega), happ a1 [a2], List.append_assoc]
 rw [if_neg (by rw [decide_eq_true_eq]; exact cr)]
 by_cases c5 : fn = 5
 ·have h1 := I.one (Or.inl c5)
  have hb := bits_rd (I.bits (Or.inl c5)) 0
  have hw : wrap64 (65280 * rd l 0) = 65280 * rd l 0 := wrap64_id _ (by omega) (by omega)
  rw [if_pos c5, if_pos c5, if_pos (by omega), hw, rlay_f _ (words2 ha (by omega)) (by simp) k (by simp; omega), Option.bind_some, if_pos (by simp [lays_len]), happ a1 [_], List.append_assoc]
 rw [if_neg c5, if_neg c5]
 by_cases c6 : fn = 6
 ·have h1 := I.one (Or.inr c6)
  have hb : 0 ≤ rd l 0 ∧ rd l 0 ≤ 65535 := by
   have hlt : 0 < l.length := by omega
   have hrd : rd l 0 = l[0] := by simp [rd, List.getElem?_eq_getElem hlt]
   rw [hrd]; exact I.wrds (Or.inl c6) _ (List.getElem_mem hlt)
  rw [if_pos c6, if_pos c6, if_pos (by omega), rlay_f _ (words2 ha hb) (by simp) k (by simp; omega), Option.bind_some, if_pos (by simp [lays_len]), happ a1 [_], List.append_assoc]
 rw [if_neg c6, if_neg c6]
 by_cases c15 : fn = 15
 ·have hc := I.cntl (Or.inl c15)
  rw [if_pos c15, if_neg (by omega), if_pos c15, rlay_f _ (words2 ha (by omega)) (by simp) k (by simp; omega), Option.bind_some, if_pos (by simp [lays_len]), Option.bind_some, refpack_f l (I.bits (Or.inr c15)) (by omega) k (by omega), Option.bind_some, rcounted_f _ (by rw [packs_len]; omega), Option.bind_some, if_pos (by simp [lays_len, packs_len]; omega), happ a1 [a2]]
  simp only [List.append_assoc]
 rw [if_neg c15, if_neg c15]
 by_cases c16 : fn = 16
 ·have hc := I.cntl (Or.inr c16)
  rw [if_pos c16, if_neg (by omega), if_neg (by omega), if_pos c16, rlay_f _ (words2 ha (by omega)) (by simp) k (by simp; omega), Option.bind_some, if_pos (by simp [lays_len]), Option.bind_some, rlay_f l (I.wrds (by omega)) (by omega) k (by omega), Option.bind_some, rcounted_f _ (by rw [lays_len]; omega), Option.bind_some, if_pos (by simp [lays_len]; omega), happ a1 [a2]]
  simp only [List.append_assoc]
 rw [if_neg c16, if_neg c16]
 by_cases c22 : fn = 22
 ·rw [if_pos c22, if_pos c22, rlay_f _ (words3 ha I.m.1 I.m.2) (by simp) k (by simp; omega), Option.bind_some, if_pos (by simp [lays_len]), happ a1 [a5, a6], List.append_assoc]
 rw [if_neg c22, if_neg c22]
 have c23 : fn = 23 := by omega
 have hc := I.cnt (by omega)
 rw [if_pos c23, rlay_f _ (words4 ha (by omega) I.tow (by omega)) (by simp) k (by simp; omega), Option.bind_some, if_pos (by simp [lays_len]), Option.bind_some, rlay_f l (I.wrds (by omega)) (by omega) k (by omega), Option.bind_some, rcounted_f _ (by rw [lays_len]; omega), Option.bind_some, if_pos (by simp [lays_len]; omega), happ a1 [a2, a4, (l.length : Int)]]
 simp only [List.append_assoc]
end Go.Proofs.Ytlalpooiegganaa.Mth
end

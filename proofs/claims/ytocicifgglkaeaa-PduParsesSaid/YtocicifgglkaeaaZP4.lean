/- The words, contracts and walks that this claim leans on, put together by a program of this session (part 4). -/
import Derived.Test.YtocicifgglkaeaaZP3
import Derived.ChangeAlike
import Derived.MapKept
section
namespace Go.Proofs.Ytocicifgglkaeaa.ExtP
open Go.RowKit Go.Proofs.YtocicifgglkaeaaW.PrintWords Go.Proofs.YtocicifgglkaeaaW.PrintLast Go.Proofs.YtocicifgglkaeaaW.PrintMore Go.Proofs.Ytocicifgglkaeaa.ExtF Go.Proofs.Ytocicifgglkaeaa.ExtN Go.Proofs.Ytocicifgglkaeaa.PP Go.Proofs.Ytocicifgglkaeaa.PQ Go.Proofs.Ytocicifgglkaeaa.ExtM Go.Proofs.Ytocicifgglkaeaa.MathP Go.Proofs.Ytocicifgglkaeaa.Mth
set_option linter.unusedVariables false
set_option linter.unusedSimpArgs false
theorem cut_u8 (w : World) (A : Option Addr) (c : Nat) (l : List Int) (j : Int) (h0 : 0 ≤ j) (hj : j ≤ l.length) (hc : l.length ≤ c) (h : Kd.C (Kd.int .u8) w A l.length l) :
 ∃ (D : Option Addr) (lt : List Int) (d : Nat), lt = l.drop j.toNat ∧ (∀ W : World, (Instr.slice 58 (.slice A l.length c) (some (.int .i64 j)) none none).run Try.prog W = .ok (.slice D lt.length d) W) ∧ Kd.C (Kd.int .u8) w D lt.length lt ∧ lt.length ≤ d := by
 obtain ⟨i0, hi0, _, hsz, _⟩ := info_parts Ext.info5
 obtain ⟨D, h1, h2, h3⟩ := print_drop_of (P := Try.prog) (Value.int .u8) 0 58 5 .i64 Try.underlying58 hi0 hsz A c l j h0 hj hc
 exact ⟨D, _, _, rfl, h1, Kd.C_of_reads (h1 := fun _ => rfl) (h2 _ (Kd.reads_of_C h)), h3⟩
def unp (b : List Int) (n : Int) : List Int := if n ≤ 8 * (b.length : Int) then unbits b n.toNat else []
def cand (fn : Int) (b L : List Int) : Int × List Int × Int × Int × Int :=
 if fn = 5 then (0, [rd L 1 / 65280], 0, 0, 0)
 else if fn = 6 then (0, [rd L 1], 0, 0, 0)
 else if fn = 22 then (0, [], 0, rd L 1, if 2 < L.length then rd L 2 else 0)
 else if fn = 15 then (rd L 1, unp (b.drop (min 6 b.length)) (rd L 1), 0, 0, 0)
 else if fn = 23 then (rd L 1, wordsOf (b.drop (min 10 b.length)), (if 2 < L.length then rd L 2 else 0), 0, 0)
 else if fn = 16 then (rd L 1, wordsOf (b.drop (min 6 b.length)), 0, 0, 0)
 else (rd L 1, [], 0, 0, 0)
def ParsePost (w : World) (r1 r2 r3 : Int) (r4 : List Int) (r5 r6 r7 r8 : Int) (e : Ending) (w' : World) : Prop :=
 ∃ (A : Option Addr) (c : Nat), e = .returned (.tuple #[.agg #[.int .i64 r1, .int .i64 r2, .int .i64 r3, .slice A r4.length c, .int .i64 r5, .int .i64 r6, .int .i64 r7], .int .i64 r8]) ∧ r4.length ≤ c ∧ Kd.C (Kd.int .i64) w' A r4.length r4 ∧ Below w.heap.size w w'
theorem F_cell1 {W : World} {g o gb : Nat} {x : Int} (h : W.cell? ⟨g, o, none⟩ = some (.int .i64 x)) (hne : g ≠ gb) : Kd.F (Kd.int .i64) W (fun k => k ≠ gb) (some ⟨g, o, none⟩) [x].length [x] := by
 intro W' hW
 refine Kd.C_of_reads (d := 0) (h1 := fun _ => rfl) ⟨rfl, by simp, fun _ => ⟨_, rfl, fun j hj => ?_⟩⟩
 obtain rfl : j = 0 := by simp at hj; omega
 rw [Addr.add_zero']
 have hb := hW g hne (World.block_lt_of_cell? W _ h)
 exact (World.cell?_of_block (w := W) hb).trans h
theorem F_nil' (W : World) (ok : Nat → Prop) : Kd.F (Kd.int .i64) W ok none ([] : List Int).length [] := Kd.F_nil _ _ _
theorem F_two {W : World} {A : Option Addr} {n g g' cc e b : Nat} {xs : List Int} (h : (Kd.int .i64).R e W b (fun _ => True) (.slice A n cc) xs) (hg : g < b) (hg' : g' < b) : Kd.F (Kd.int .i64) W (fun k => k ≠ g ∧ k ≠ g') A xs.length xs := by
 obtain ⟨hn, _, _⟩ := Kd.R_reads' h
 subst hn
 exact Kd.R_F (Kd.R_mono (Kd.R_bound h) (fun k hk => by have := hk.2.1; omega))
theorem size_set' (W : World) (a : Addr) (u : Value) : (W.setCell a u).heap.size = W.heap.size := by simp [World.setCell]
theorem size_drewN' (W : World) (n : Nat) : (W.drewN n).heap.size = W.heap.size := rfl
theorem size_drew' (W : World) : W.drew.heap.size = W.heap.size := rfl
theorem size_alloc' (W : World) (o : Obj) : (W.alloc o).heap.size = W.heap.size + 1 := by simp
theorem cell_set_self {W : World} {a : Addr} {v u : Value} (h : W.cell? a = some v) : (W.setCell a u).cell? a = some u := by go_simp
theorem unp_f (b : List Int) (hb : Bytes b) (n : Int) (hn : 0 ≤ n ∧ n ≤ 65535) (hl : b.length ≤ 1000000) (k : Nat) (hk : 100000 ≤ k) : PR.wire_Unpack.f k b n = some (unp b n, if n ≤ 8 * (b.length : Int) then 0 else 7) := by
 unfold unp
 by_cases h : n ≤ 8 * (b.length : Int)
 ·rw [if_pos h, if_pos h]
  obtain ⟨m, rfl⟩ := Int.eq_ofNat_of_zero_le hn.1
  exact unpack_yes b hb m (by omega) (by omega) k (by omega)
 ·rw [if_neg h, if_neg h]
  unfold PR.wire_Unpack.f
  rw [if_neg (by omega), wrap64_id _ (by omega) (by omega), if_pos (by omega)]
def parseG (fn a1 : Int) (b L : List Int) : Int × Int × Int × List Int × Int × Int × Int × Int :=
 if mayB fn a1 (cand fn b L).1 (cand fn b L).2.1 (cand fn b L).2.2.1 (cand fn b L).2.2.2.1 (cand fn b L).2.2.2.2 = true ∧ reqB fn a1 (cand fn b L).1 (cand fn b L).2.1 (cand fn b L).2.2.1 (cand fn b L).2.2.2.1 (cand fn b L).2.2.2.2 = b then (fn, a1, (cand fn b L).1, (cand fn b L).2.1, (cand fn b L).2.2.1, (cand fn b L).2.2.2.1, (cand fn b L).2.2.2.2, 0) else (0, 0, 0, [], 0, 0, 0, 4)
def ParseOf (w : World) (t : Int × Int × Int × List Int × Int × Int × Int × Int) (e : Ending) (w' : World) : Prop := ParsePost w t.1 t.2.1 t.2.2.1 t.2.2.2.1 t.2.2.2.2.1 t.2.2.2.2.2.1 t.2.2.2.2.2.2.1 t.2.2.2.2.2.2.2 e w'
theorem parseG_no {fn a1 a2 a4 a5 a6 : Int} {vs b L : List Int} (hc : cand fn b L = (a2, vs, a4, a5, a6)) (h : ¬ (mayB fn a1 a2 vs a4 a5 a6 = true ∧ reqB fn a1 a2 vs a4 a5 a6 = b)) : parseG fn a1 b L = (0, 0, 0, [], 0, 0, 0, 4) := by
 unfold parseG; rw [hc]; exact if_neg h
theorem parseG_yes {fn a1 a2 a4 a5 a6 : Int} {vs b L : List Int} (hc : cand fn b L = (a2, vs, a4, a5, a6)) (h : mayB fn a1 a2 vs a4 a5 a6 = true ∧ reqB fn a1 a2 vs a4 a5 a6 = b) : parseG fn a1 b L = (fn, a1, a2, vs, a4, a5, a6, 0) := by
 unfold parseG; rw [hc]; exact if_pos h
theorem cand_len {fn a2 a4 a5 a6 : Int} {vs b L : List Int} (hx : rd L 1 ≤ 65535) (hb : b.length ≤ 100000) (hc : cand fn b L = (a2, vs, a4, a5, a6)) : vs.length ≤ 100000 := by
 have hw : ∀ n, (wordsOf (b.drop n)).length ≤ 100000 := fun n => by rw [wordsOf_len, List.length_drop]; omega
 have hu : ∀ n, (unp (b.drop n) (rd L 1)).length ≤ 100000 := fun n => by
  unfold unp
  split
  ·rw [unbits_len]; omega
  ·simp
 have : vs = (cand fn b L).2.1 := by rw [hc]
 rw [this]
 unfold cand
 repeat' split
 all_goals first | exact hw _ | exact hu _ | simp
set_option maxHeartbeats 8000000 in
set_option maxRecDepth 100000 in
theorem parse_walk (KF : Nat) (A0 : Option Addr) (c0 : Nat) (l0 L : List Int) (fn a1 x1 : Int) (w : World) (hr0 : Kd.C (Kd.int .u8) w A0 l0.length l0) (hc0 : l0.length ≤ c0) (h5 : 5 ≤ l0.length) (hl0 : l0.length ≤ 100000) (hby : Bytes l0) (hK : 200000 ≤ KF) (hfn : rd l0 0 = fn) (hfn0 : 0 ≤ fn) (hfn1 : fn < 256) (fL : Aside0 (PR.pdu_words.f KF (l0.drop 1) = some L)) (hL : 2 ≤ L.length) (ha1 : rd L 0 = a1) (hx1 : rd L 1 = x1) (hx10 : 0 ≤ x1) (hx11 : x1 ≤ 65535) : Calls Try.prog 34 #[.slice A0 l0.length c0] w (ParseOf w (parseG fn a1 l0 L)) := by
 have hu24 := Try.underlying24
 have HR0 := Aside0.mk hr0
 have HC0 := Aside0.mk hc0
 have HL := Aside0.mk hL
 have HFN := Aside0.mk hfn
 have HA1 := Aside0.mk ha1
 have HX1 := Aside0.mk hx1
 have H5 := Aside0.mk h5
 have HL0 := Aside0.mk hl0
 have HBY := Aside0.mk hby
 have HK := Aside0.mk hK
 obtain ⟨ad, ead, hx0⟩ := Kd.at_int hr0 0 (by omega) (by omega)
 cases ead
 rw [show ((0 : Int)).toNat = 0 from rfl, Addr.add_zero', hfn] at hx0
 have HX0 := Aside0.mk hx0
 obtain ⟨D1, lt1, d1, hlt1, hcut1, hV1, hd1⟩ := cut_u8 w (some ad) c0 l0 1 (by omega) (by omega) hc0 hr0
 have HV1 := Aside0.mk hV1
 have HD1 := Aside0.mk hd1
 have fL1 : Aside0 (PR.pdu_words.f KF lt1 = some L) := ⟨by rw [hlt1]; exact fL.out⟩
 clear hV1 hd1 hlt1
 have HB0 := Aside0.mk (Below.refl w.heap.size w)
 have h5b : decide ((l0.length : Int) < 5) = false := decide_eq_false (by omega)
 have h0b : decide (0 < (l0.length : Int)) = true := decide_eq_true (by omega)
 have h1b : decide (1 ≤ (l0.length : Int)) = true := decide_eq_true (by omega)
 have qi : (0 < l0.length) = True := eq_true (by omega)
 clear hr0 hc0 hL hfn ha1 hx1 hx0 h5 fL hl0 hby hK
 have tk1 := Aside0.mk trivial
 go_enter Try.func34, Try.ntmps34
 go_upto_block 0 with (first | ((with_reducible refine gate_dst (N := 2) rfl ?_); refine bx_ (N := 2) (cs := #[.int .i64 0, .int .i64 0, .int .i64 0, .slice none 0 0, .int .i64 0, .int .i64 0, .int .i64 0]) (t := 24) ?_; intro gb2 hg w3 hbox hb; have GE2 : Aside0 (w.heap.size ≤ gb2) := Aside0.mk (by rw [hg]; exact (below_size (by repeat (first | (with_reducible first | exact HB0.out | apply below_alloc | apply pw_below_drewN | apply below_drew1 | refine below_set ?_ GE2.out | refine below_set ?_ GE4.out | refine below_set ?_ GEL.out) | exact HB0.out)))); have HBn := Aside0.mk (below_step (by repeat (first | (with_reducible first | exact HB0.out | apply below_alloc | apply pw_below_drewN | apply below_drew1 | refine below_set ?_ GE2.out | refine below_set ?_ GE4.out | refine below_set ?_ GEL.out) | exact HB0.out)) hb); have BK2 := Aside0.mk hbox; clear HB0 hbox; have HB0 := HBn; clear HBn; have hx0 : w3.cell? ad = some (.int .u8 fn) := (HB0.out.cell (World.block_lt_of_cell? w _ HX0.out)).trans HX0.out; clear hb hg) | ((with_reducible refine gate_dst (N := 4) rfl ?_); refine bx_ (N := 4) (cs := #[.int .i64 0, .int .i64 0, .int .i64 0, .slice none 0 0, .int .i64 0, .int .i64 0, .int .i64 0]) (t := 24) ?_; intro gb4 hg w4 hbox hb; have GE4 : Aside0 (w.heap.size ≤ gb4) := Aside0.mk (by rw [hg]; exact (below_size (by repeat (first | (with_reducible first | exact HB0.out | apply below_alloc | apply pw_below_drewN | apply below_drew1 | refine below_set ?_ GE2.out | refine below_set ?_ GE4.out | refine below_set ?_ GEL.out) | exact HB0.out)))); have BKn := Aside0.mk (blk_below (g := gb2) (bk_ BK2) hb); have NB24 : Aside0 (gb2 ≠ gb4) := Aside0.mk (by have := blk_lt (by exact BK2.out); omega); have NB42 : Aside0 (gb4 ≠ gb2) := Aside0.mk (fun e => NB24.out e.symm); clear BK2; have BK2 := BKn; clear BKn; have HBn := Aside0.mk (below_step (by repeat (first | (with_reducible first | exact HB0.out | apply below_alloc | apply pw_below_drewN | apply below_drew1 | refine below_set ?_ GE2.out | refine below_set ?_ GE4.out | refine below_set ?_ GEL.out) | exact HB0.out)) hb); have BK4 := Aside0.mk hbox; clear HB0 hbox; have HB0 := HBn; clear HBn; refine cz7_ BK4.out ?_; intro hcz4_0 hcz4_1 hcz4_2 hcz4_3 hcz4_4 hcz4_5 hcz4_6 hfz4_0 hfz4_1 hfz4_2 hfz4_3 hfz4_4 hfz4_5 hfz4_6; clear hb hg) | (go_at_call 59; have _t := tk1; refine (PR.pdu_words.calls KF D1 d1 lt1 L _ (Kd.C_below HV1.out (by repeat (first | (with_reducible first | exact HB0.out | apply below_alloc | apply pw_below_drewN | apply below_drew1 | refine below_set ?_ GE2.out | refine below_set ?_ GE4.out | refine below_set ?_ GEL.out) | exact HB0.out))) HD1.out fL1.out).mono ?_; rintro e w5 ⟨vL, rfl, HRL, HBc⟩; have BK4n : Aside0 (w5.heap[gb4]? = some (.cells #[.int .i64 fn, .int .i64 0, .int .i64 0, .slice none 0 0, .int .i64 0, .int .i64 0, .int .i64 0] 24 (0, 0))) := Aside0.mk (blk_below (g := gb4) (by (with_reducible repeat (first | refine blk_drewN ?_ _ | refine blk_drew ?_ | refine blk_alloc ?_ _)); refine blk_put (cs := #[.int .i64 fn, .int .i64 0, .int .i64 0, .slice none 0 0, .int .i64 0, .int .i64 0, .int .i64 0]) ?_ 6 _ rfl; (with_reducible repeat (first | refine blk_drewN ?_ _ | refine blk_drew ?_ | refine blk_alloc ?_ _)); refine blk_put (cs := #[.int .i64 fn, .int .i64 0, .int .i64 0, .slice none 0 0, .int .i64 0, .int .i64 0, .int .i64 0]) ?_ 5 _ rfl; (with_reducible repeat (first | refine blk_drewN ?_ _ | refine blk_drew ?_ | refine blk_alloc ?_ _)); refine blk_put (cs := #[.int .i64 fn, .int .i64 0, .int .i64 0, .slice none 0 0, .int .i64 0, .int .i64 0, .int .i64 0]) ?_ 4 _ rfl; (with_reducible repeat (first | refine blk_drewN ?_ _ | refine blk_drew ?_ | refine blk_alloc ?_ _)); refine blk_put (cs := #[.int .i64 fn, .int .i64 0, .int .i64 0, .slice none 0 0, .int .i64 0, .int .i64 0, .int .i64 0]) ?_ 3 _ rfl; (with_reducible repeat (first | refine blk_drewN ?_ _ | refine blk_drew ?_ | refine blk_alloc ?_ _)); refine blk_put (cs := #[.int .i64 fn, .int .i64 0, .int .i64 0, .slice none 0 0, .int .i64 0, .int .i64 0, .int .i64 0]) ?_ 2 _ rfl; (with_reducible repeat (first | refine blk_drewN ?_ _ | refine blk_drew ?_ | refine blk_alloc ?_ _)); refine blk_put (cs := #[.int .i64 fn, .int .i64 0, .int .i64 0, .slice none 0 0, .int .i64 0, .int .i64 0, .int .i64 0]) ?_ 1 _ rfl; (with_reducible repeat (first | refine blk_drewN ?_ _ | refine blk_drew ?_ | refine blk_alloc ?_ _)); refine blk_put (cs := #[.int .i64 0, .int .i64 0, .int .i64 0, .slice none 0 0, .int .i64 0, .int .i64 0, .int .i64 0]) ?_ 0 _ rfl; (with_reducible repeat (first | refine blk_drewN ?_ _ | refine blk_drew ?_ | refine blk_alloc ?_ _)); exact BK4.out) HBc); have BK2n : Aside0 (w5.heap[gb2]? = some (.cells #[.int .i64 0, .int .i64 0, .int .i64 0, .slice none 0 0, .int .i64 0, .int .i64 0, .int .i64 0] 24 (0, 0))) := Aside0.mk (blk_below (g := gb2) (by (with_reducible repeat (first | refine blk_drewN ?_ _ | refine blk_drew ?_ | refine blk_alloc ?_ _)); refine blk_far ?_ NB24.out _; (with_reducible repeat (first | refine blk_drewN ?_ _ | refine blk_drew ?_ | refine blk_alloc ?_ _)); refine blk_far ?_ NB24.out _; (with_reducible repeat (first | refine blk_drewN ?_ _ | refine blk_drew ?_ | refine blk_alloc ?_ _)); refine blk_far ?_ NB24.out _; (with_reducible repeat (first | refine blk_drewN ?_ _ | refine blk_drew ?_ | refine blk_alloc ?_ _)); refine blk_far ?_ NB24.out _; (with_reducible repeat (first | refine blk_drewN ?_ _ | refine blk_drew ?_ | refine blk_alloc ?_ _)); refine blk_far ?_ NB24.out _; (with_reducible repeat (first | refine blk_drewN ?_ _ | refine blk_drew ?_ | refine blk_alloc ?_ _)); refine blk_far ?_ NB24.out _; (with_reducible repeat (first | refine blk_drewN ?_ _ | refine blk_drew ?_ | refine blk_alloc ?_ _)); refine blk_far ?_ NB24.out _; (with_reducible repeat (first | refine blk_drewN ?_ _ | refine blk_drew ?_ | refine blk_alloc ?_ _)); exact BK2.out) HBc); have hg4 := blk_lt BK4.out; have hg2 := blk_lt BK2.out; have HBn := Aside0.mk (below_step (by repeat (first | (with_reducible first | exact HB0.out | apply below_alloc | apply pw_below_drewN | apply below_drew1 | refine below_set ?_ GE2.out | refine below_set ?_ GE4.out | refine below_set ?_ GEL.out) | exact HB0.out)) HBc); skip; obtain ⟨gL, cL, rfl, hgL, hgL2, _⟩ := Kd.R_form HRL (by have := HL.out; omega); simp only [World.setCell, Array.size_modify] at hgL; have hbw := below_size HB0.out; have GEL : Aside0 (w.heap.size ≤ gL) := ⟨by omega⟩; have NB4L : Aside0 (gb4 ≠ gL) := ⟨by omega⟩; have NBL4 : Aside0 (gL ≠ gb4) := ⟨by omega⟩; have NB2L : Aside0 (gb2 ≠ gL) := ⟨by omega⟩; have NBL2 : Aside0 (gL ≠ gb2) := ⟨by omega⟩; have G2L : Aside0 (gb2 < gL) := ⟨by omega⟩; have G4L : Aside0 (gb4 < gL) := ⟨by omega⟩; have HCL : Aside0 (L.length ≤ cL) := ⟨(Kd.R_reads' HRL).2.1⟩; have HVL := Aside0.mk HRL; clear HB0 BK2 BK4; have HB0 := HBn; have BK2 := BK2n; have BK4 := BK4n; clear HBn BK2n BK4n HRL HBc hbw hg4 hg2 hgL hgL2 hx0; clear hcz4_0 hfz4_0 hcz4_1 hfz4_1 hcz4_2 hfz4_2 hcz4_3 hfz4_3 hcz4_4 hfz4_4 hcz4_5 hfz4_5 hcz4_6 hfz4_6; clear tk1 _t; have hnb := NB4L.out; have hnc := NBL4.out; refine cz7_ BK4.out ?_; intro hcz5_0 hcz5_1 hcz5_2 hcz5_3 hcz5_4 hcz5_5 hcz5_6 hfz5_0 hfz5_1 hfz5_2 hfz5_3 hfz5_4 hfz5_5 hfz5_6; have hcL0 : w5.cell? ⟨gL, 0, none⟩ = some (.int .i64 a1) := (Kd.R_celln (d := 0) HVL.out 0 (by omega) (by have := HL.out; omega)).1.trans (by show some (Value.int .i64 (rd L 0)) = _; rw [HA1.out]); have hcL1 : w5.cell? ⟨gL, 1, none⟩ = some (.int .i64 x1) := (Kd.R_celln (d := 0) HVL.out 1 (by omega) (by have := HL.out; omega)).1.trans (by show some (Value.int .i64 (rd L 1)) = _; rw [HX1.out]); have hfL1 : w5.frozen? ⟨gL, 1, none⟩ = false := (Kd.R_celln (d := 0) HVL.out 1 (by omega) (by have := HL.out; omega)).2; have hp0 : (0 : Int) < (L.length : Int) := (by have := HL.out; omega); have hp1 : (1 : Int) < (L.length : Int) := (by have := HL.out; omega); have hpc : (2 : Int) ≤ (cL : Int) := (by have := HL.out; have := HCL.out; omega); have hqL : decide (0 < (L.length : Int)) = true := decide_eq_true (by have := HL.out; omega); have hqL1 : decide (1 < (L.length : Int)) = true := decide_eq_true (by have := HL.out; omega); have hqi0 : (0 < L.length) = True := eq_true (by have := HL.out; omega); have hqi1 : (1 < L.length) = True := eq_true (by have := HL.out; omega)))
 go_cut [] (fun wc => ∃ (a2 : Int) (vs : List Int) (a4 a5 a6 : Int) (A : Option Addr) (c : Nat), Aside0 (cand fn l0 L = (a2, vs, a4, a5, a6)) ∧ Aside0 (wc.heap[gb2]? = some (.cells #[.int .i64 0, .int .i64 0, .int .i64 0, .slice none 0 0, .int .i64 0, .int .i64 0, .int .i64 0] 24 (0, 0))) ∧ Aside0 (wc.heap[gb4]? = some (.cells #[.int .i64 fn, .int .i64 a1, .int .i64 a2, .slice A vs.length c, .int .i64 a4, .int .i64 a5, .int .i64 a6] 24 (0, 0))) ∧ Aside0 (vs.length ≤ c) ∧ Aside0 (Kd.F (Kd.int .i64) wc (fun k => k ≠ gb2) A vs.length vs) ∧ Aside0 (Below w.heap.size w wc))
 case first =>
  by_cases c5 : fn = 5
  ·subst c5
   go_wp2_with (fail)
   go_meet
   case rel => exact ⟨0, [x1 / 65280], 0, 0, 0, some ⟨gL, 1, none⟩, cL - 1, ⟨by unfold cand; rw [if_pos rfl, HX1.out]⟩, ⟨by (with_reducible repeat (first | refine blk_drewN ?_ _ | refine blk_drew ?_ | refine blk_alloc ?_ _)); refine blk_far ?_ NB24.out _; (with_reducible repeat (first | refine blk_drewN ?_ _ | refine blk_drew ?_ | refine blk_alloc ?_ _)); refine blk_far ?_ NB2L.out _; (with_reducible repeat (first | refine blk_drewN ?_ _ | refine blk_drew ?_ | refine blk_alloc ?_ _)); refine blk_far ?_ NB24.out _; (with_reducible repeat (first | refine blk_drewN ?_ _ | refine blk_drew ?_ | refine blk_alloc ?_ _)); exact BK2.out⟩, ⟨by (with_reducible repeat (first | refine blk_drewN ?_ _ | refine blk_drew ?_ | refine blk_alloc ?_ _)); refine blk_put (cs := #[.int .i64 5, .int .i64 a1, .int .i64 0, .slice none 0 0, .int .i64 0, .int .i64 0, .int .i64 0]) ?_ 3 _ rfl; (with_reducible repeat (first | refine blk_drewN ?_ _ | refine blk_drew ?_ | refine blk_alloc ?_ _)); refine blk_far ?_ NB4L.out _; (with_reducible repeat (first | refine blk_drewN ?_ _ | refine blk_drew ?_ | refine blk_alloc ?_ _)); refine blk_put (cs := #[.int .i64 5, .int .i64 0, .int .i64 0, .slice none 0 0, .int .i64 0, .int .i64 0, .int .i64 0]) ?_ 1 _ rfl; (with_reducible repeat (first | refine blk_drewN ?_ _ | refine blk_drew ?_ | refine blk_alloc ?_ _)); exact BK4.out⟩, ⟨by have := HL.out; have := HCL.out; simp; omega⟩, ⟨by refine F_cell1 ?_ NBL2.out; rw [cell_far (p := ⟨gb4, 3, none⟩) (a := ⟨gL, 1, none⟩) NBL4.out]; exact (cell_set_self (by rw [cell_far (p := ⟨gb4, 1, none⟩) (a := ⟨gL, 1, none⟩) NBL4.out]; exact hcL1))⟩, ⟨by repeat (first | (with_reducible first | exact HB0.out | apply below_alloc | apply pw_below_drewN | apply below_drew1 | refine below_set ?_ GE2.out | refine below_set ?_ GE4.out | refine below_set ?_ GEL.out) | exact HB0.out)⟩⟩
  have hb5 : (fn == 5) = false := beq_eq_false_iff_ne.2 c5
  by_cases c6 : fn = 6
  ·subst c6
   go_wp2_with (fail)
   go_meet
   case rel => exact ⟨0, [x1], 0, 0, 0, some ⟨gL, 1, none⟩, cL - 1, ⟨by unfold cand; rw [if_neg (by decide), if_pos rfl, HX1.out]⟩, ⟨by (with_reducible repeat (first | refine blk_drewN ?_ _ | refine blk_drew ?_ | refine blk_alloc ?_ _)); refine blk_far ?_ NB24.out _; (with_reducible repeat (first | refine blk_drewN ?_ _ | refine blk_drew ?_ | refine blk_alloc ?_ _)); refine blk_far ?_ NB24.out _; (with_reducible repeat (first | refine blk_drewN ?_ _ | refine blk_drew ?_ | refine blk_alloc ?_ _)); exact BK2.out⟩, ⟨by (with_reducible repeat (first | refine blk_drewN ?_ _ | refine blk_drew ?_ | refine blk_alloc ?_ _)); refine blk_put (cs := #[.int .i64 6, .int .i64 a1, .int .i64 0, .slice none 0 0, .int .i64 0, .int .i64 0, .int .i64 0]) ?_ 3 _ rfl; (with_reducible repeat (first | refine blk_drewN ?_ _ | refine blk_drew ?_ | refine blk_alloc ?_ _)); refine blk_put (cs := #[.int .i64 6, .int .i64 0, .int .i64 0, .slice none 0 0, .int .i64 0, .int .i64 0, .int .i64 0]) ?_ 1 _ rfl; (with_reducible repeat (first | refine blk_drewN ?_ _ | refine blk_drew ?_ | refine blk_alloc ?_ _)); exact BK4.out⟩, ⟨by have := HL.out; have := HCL.out; simp; omega⟩, ⟨by refine F_cell1 ?_ NBL2.out; rw [cell_far (p := ⟨gb4, 3, none⟩) (a := ⟨gL, 1, none⟩) NBL4.out, cell_far (p := ⟨gb4, 1, none⟩) (a := ⟨gL, 1, none⟩) NBL4.out]; exact hcL1⟩, ⟨by repeat (first | (with_reducible first | exact HB0.out | apply below_alloc | apply pw_below_drewN | apply below_drew1 | refine below_set ?_ GE2.out | refine below_set ?_ GE4.out | refine below_set ?_ GEL.out) | exact HB0.out)⟩⟩
  have hb6 : (fn == 6) = false := beq_eq_false_iff_ne.2 c6
  by_cases c22 : fn = 22
  ·subst c22
   by_cases h3 : 2 < L.length
   ·have hcL2 : w5.cell? ⟨gL, 2, none⟩ = some (.int .i64 (rd L 2)) := (Kd.R_celln (d := 0) HVL.out 2 (by omega) (by omega)).1
    have hp2 : (2 : Int) < (L.length : Int) := by omega
    have hp2b : decide ((2 : Int) < (L.length : Int)) = true := decide_eq_true hp2
    have hqi2 : (2 < L.length) = True := eq_true h3
    have H3 := Aside0.mk h3
    clear h3
    go_wp2_with (fail)
    go_meet
    case rel => exact ⟨0, [], 0, x1, rd L 2, none, 0, ⟨by unfold cand; rw [if_neg (by decide), if_neg (by decide), if_pos rfl, HX1.out, if_pos H3.out]⟩, ⟨by (with_reducible repeat (first | refine blk_drewN ?_ _ | refine blk_drew ?_ | refine blk_alloc ?_ _)); refine blk_far ?_ NB24.out _; (with_reducible repeat (first | refine blk_drewN ?_ _ | refine blk_drew ?_ | refine blk_alloc ?_ _)); refine blk_far ?_ NB24.out _; (with_reducible repeat (first | refine blk_drewN ?_ _ | refine blk_drew ?_ | refine blk_alloc ?_ _)); refine blk_far ?_ NB24.out _; (with_reducible repeat (first | refine blk_drewN ?_ _ | refine blk_drew ?_ | refine blk_alloc ?_ _)); exact BK2.out⟩, ⟨by (with_reducible repeat (first | refine blk_drewN ?_ _ | refine blk_drew ?_ | refine blk_alloc ?_ _)); refine blk_put (cs := #[.int .i64 22, .int .i64 a1, .int .i64 0, .slice none 0 0, .int .i64 0, .int .i64 x1, .int .i64 0]) ?_ 6 _ rfl; (with_reducible repeat (first | refine blk_drewN ?_ _ | refine blk_drew ?_ | refine blk_alloc ?_ _)); refine blk_put (cs := #[.int .i64 22, .int .i64 a1, .int .i64 0, .slice none 0 0, .int .i64 0, .int .i64 0, .int .i64 0]) ?_ 5 _ rfl; (with_reducible repeat (first | refine blk_drewN ?_ _ | refine blk_drew ?_ | refine blk_alloc ?_ _)); refine blk_put (cs := #[.int .i64 22, .int .i64 0, .int .i64 0, .slice none 0 0, .int .i64 0, .int .i64 0, .int .i64 0]) ?_ 1 _ rfl; (with_reducible repeat (first | refine blk_drewN ?_ _ | refine blk_drew ?_ | refine blk_alloc ?_ _)); exact BK4.out⟩, ⟨by simp⟩, ⟨F_nil' _ _⟩, ⟨by repeat (first | (with_reducible first | exact HB0.out | apply below_alloc | apply pw_below_drewN | apply below_drew1 | refine below_set ?_ GE2.out | refine below_set ?_ GE4.out | refine below_set ?_ GEL.out) | exact HB0.out)⟩⟩
   ·have hp2b : decide ((2 : Int) < (L.length : Int)) = false := decide_eq_false (by omega)
    have hp2 : (L.length : Int) ≤ 2 := by omega
    have H3 := Aside0.mk h3
    clear h3
    go_wp2_with (fail)
    go_meet
    case rel => exact ⟨0, [], 0, x1, 0, none, 0, ⟨by unfold cand; rw [if_neg (by decide), if_neg (by decide), if_pos rfl, HX1.out, if_neg H3.out]⟩, ⟨by (with_reducible repeat (first | refine blk_drewN ?_ _ | refine blk_drew ?_ | refine blk_alloc ?_ _)); refine blk_far ?_ NB24.out _; (with_reducible repeat (first | refine blk_drewN ?_ _ | refine blk_drew ?_ | refine blk_alloc ?_ _)); refine blk_far ?_ NB24.out _; (with_reducible repeat (first | refine blk_drewN ?_ _ | refine blk_drew ?_ | refine blk_alloc ?_ _)); exact BK2.out⟩, ⟨by (with_reducible repeat (first | refine blk_drewN ?_ _ | refine blk_drew ?_ | refine blk_alloc ?_ _)); refine blk_put (cs := #[.int .i64 22, .int .i64 a1, .int .i64 0, .slice none 0 0, .int .i64 0, .int .i64 0, .int .i64 0]) ?_ 5 _ rfl; (with_reducible repeat (first | refine blk_drewN ?_ _ | refine blk_drew ?_ | refine blk_alloc ?_ _)); refine blk_put (cs := #[.int .i64 22, .int .i64 0, .int .i64 0, .slice none 0 0, .int .i64 0, .int .i64 0, .int .i64 0]) ?_ 1 _ rfl; (with_reducible repeat (first | refine blk_drewN ?_ _ | refine blk_drew ?_ | refine blk_alloc ?_ _)); exact BK4.out⟩, ⟨by simp⟩, ⟨F_nil' _ _⟩, ⟨by repeat (first | (with_reducible first | exact HB0.out | apply below_alloc | apply pw_below_drewN | apply below_drew1 | refine below_set ?_ GE2.out | refine below_set ?_ GE4.out | refine below_set ?_ GEL.out) | exact HB0.out)⟩⟩
  have hb22 : (fn == 22) = false := beq_eq_false_iff_ne.2 c22
  by_cases c15 : fn = 15
  ·subst c15
   obtain ⟨D6, lt6, d6, hlt6, hcut6, hV6, hd6⟩ := cut_u8 w (some ad) c0 l0 (min 6 (l0.length : Int)) (by omega) (by omega) HC0.out HR0.out
   have HLT6 := Aside0.mk hlt6
   have HV6 := Aside0.mk hV6
   have HD6 := Aside0.mk hd6
   clear hV6 hd6 hlt6
   obtain ⟨vs, hvs⟩ : ∃ vs, vs = unp lt6 x1 := ⟨_, rfl⟩
   have fU : Aside0 (PR.wire_Unpack.f KF lt6 x1 = some (vs, if x1 ≤ 8 * (lt6.length : Int) then 0 else 7)) := ⟨by rw [hvs]; exact unp_f lt6 (by rw [HLT6.out]; exact bytes_drop HBY.out _) x1 (by omega) (by rw [HLT6.out, List.length_drop]; have := HL0.out; omega) KF (by have := HK.out; omega)⟩
   generalize (if x1 ≤ 8 * (lt6.length : Int) then (0 : Int) else 7) = eu at fU
   have HVS := Aside0.mk hvs
   clear hvs
   go_wp2_with (fail)
   have BK4n : Aside0 (((w5.setCell ⟨gb4, 1, none⟩ (.int .i64 a1)).setCell ⟨gb4, 2, none⟩ (.int .i64 x1)).drew.heap[gb4]? = some (.cells #[.int .i64 15, .int .i64 a1, .int .i64 x1, .slice none 0 0, .int .i64 0, .int .i64 0, .int .i64 0] 24 (0, 0))) := Aside0.mk (blk_drew (by (with_reducible repeat (first | refine blk_drewN ?_ _ | refine blk_drew ?_ | refine blk_alloc ?_ _)); refine blk_put (cs := #[.int .i64 15, .int .i64 a1, .int .i64 0, .slice none 0 0, .int .i64 0, .int .i64 0, .int .i64 0]) ?_ 2 _ rfl; (with_reducible repeat (first | refine blk_drewN ?_ _ | refine blk_drew ?_ | refine blk_alloc ?_ _)); refine blk_put (cs := #[.int .i64 15, .int .i64 0, .int .i64 0, .slice none 0 0, .int .i64 0, .int .i64 0, .int .i64 0]) ?_ 1 _ rfl; (with_reducible repeat (first | refine blk_drewN ?_ _ | refine blk_drew ?_ | refine blk_alloc ?_ _)); exact BK4.out))
   have BK2n : Aside0 (((w5.setCell ⟨gb4, 1, none⟩ (.int .i64 a1)).setCell ⟨gb4, 2, none⟩ (.int .i64 x1)).drew.heap[gb2]? = some (.cells #[.int .i64 0, .int .i64 0, .int .i64 0, .slice none 0 0, .int .i64 0, .int .i64 0, .int .i64 0] 24 (0, 0))) := Aside0.mk (blk_drew (by (with_reducible repeat (first | refine blk_drewN ?_ _ | refine blk_drew ?_ | refine blk_alloc ?_ _)); refine blk_far ?_ NB24.out _; (with_reducible repeat (first | refine blk_drewN ?_ _ | refine blk_drew ?_ | refine blk_alloc ?_ _)); refine blk_far ?_ NB24.out _; (with_reducible repeat (first | refine blk_drewN ?_ _ | refine blk_drew ?_ | refine blk_alloc ?_ _)); exact BK2.out))
   have HBn : Aside0 (Below w.heap.size w ((w5.setCell ⟨gb4, 1, none⟩ (.int .i64 a1)).setCell ⟨gb4, 2, none⟩ (.int .i64 x1)).drew) := Aside0.mk (by repeat (first | (with_reducible first | exact HB0.out | apply below_alloc | apply pw_below_drewN | apply below_drew1 | refine below_set ?_ GE2.out | refine below_set ?_ GE4.out | refine below_set ?_ GEL.out) | exact HB0.out))
   clear BK4 BK2 HB0 hcz5_0 hfz5_0 hcz5_1 hfz5_1 hcz5_2 hfz5_2 hcz5_3 hfz5_3 hcz5_4 hfz5_4 hcz5_5 hfz5_5 hcz5_6 hfz5_6
   have BK4 := BK4n
   have BK2 := BK2n
   have HB0 := HBn
   clear BK4n BK2n HBn
   refine start_ (n := 10) (S := fun W => W.cell? ⟨gb4, 2, none⟩ = some (.int .i64 x1)) (ds := []) #[false, false, false, false, false, false, false, false, false, false] (by kernel_rfl) rfl rfl ?_ (fun hHeld => ?_)
   ·(first | exact (blk_cell (bk_ BK4) 2).trans rfl | exact (blk_cell (t := 24) (cs := #[.int .i64 15, .int .i64 a1, .int .i64 x1, .slice AV vs.length cV, .int .i64 0, .int .i64 0, .int .i64 0]) (by (with_reducible repeat (first | refine blk_drewN ?_ _ | refine blk_drew ?_ | refine blk_alloc ?_ _)); refine blk_put (cs := #[.int .i64 15, .int .i64 a1, .int .i64 x1, .slice none 0 0, .int .i64 0, .int .i64 0, .int .i64 0]) ?_ 3 _ rfl; (with_reducible repeat (first | refine blk_drewN ?_ _ | refine blk_drew ?_ | refine blk_alloc ?_ _)); exact BK4.out) 2).trans rfl)
   generalize ((w5.setCell ⟨gb4, 1, none⟩ (.int .i64 a1)).setCell ⟨gb4, 2, none⟩ (.int .i64 x1)).drew = w6 at BK4 BK2 HB0 hHeld ⊢
   refine pure_ (i := 0) (N := some 62) (v := ?_) (a' := ?_) #[true, false, false, false, false, false, false, false, false, false] rfl rfl (by kernel_rfl) (fun _ _ _ h => h) (Or.inl ⟨by rfl, ?_⟩) ?_ ?_
   rotate_left
   ·intro w'
    go_simp
    with_reducible rfl
   rotate_left
   ·simp only [Act.put, List.setIfInBounds_toArray, List.set_cons_zero, List.set_cons_succ, i64_w, i32_w]
    rfl
   refine pure_ (i := 2) (N := some 64) (v := ?_) (a' := ?_) #[true, false, true, false, false, false, false, false, false, false] rfl rfl (by kernel_rfl) (fun _ _ _ h => h) (Or.inl ⟨by rfl, ?_⟩) ?_ ?_
   rotate_left
   ·intro w'
    go_simp
    with_reducible rfl
   rotate_left
   ·simp only [Act.put, List.setIfInBounds_toArray, List.set_cons_zero, List.set_cons_succ, i64_w, i32_w]
    rfl
   refine take_ (i := 3) (N := some 65) (v := ?_) (a' := ?_) #[true, false, true, true, false, false, false, false, false, false] rfl rfl (by kernel_rfl) (fun _ _ _ h => h) (Or.inl ⟨by rfl, ?_⟩) hHeld ?_ ?_
   rotate_left
   ·rintro w' hS_
    go_simp
    with_reducible rfl
   rotate_left
   ·simp only [Act.put, List.setIfInBounds_toArray, List.set_cons_zero, List.set_cons_succ, i64_w, i32_w]
    rfl
   refine one_ (i := 1) (N := some 63) #[true, true, true, true, false, false, false, false, false, false] rfl rfl (by kernel_rfl) (by decide) (fun K hK => ?_)
   refine goes_ Try.func61 (by kernel_rfl) rfl #[.slice (some ad) l0.length c0, .int .i64 6] (by rfl) rfl rfl (by (try simp only [List.map_toArray, List.map_cons, List.map_nil]); first | done | rfl) ?_
   refine (pdu_from.calls (some ad) c0 l0 6 _ (.slice D6 lt6.length d6) _ hcut6 rfl).mono ?_
   rintro e w' ⟨rfl, ⟨nd, rfl⟩⟩
   refine ⟨_, rfl, ?_⟩
   refine hK.out _ _ ?_ (fun hHeld => ?_)
   ·(first | exact (blk_cell (bk_ BK4) 2).trans rfl | exact (blk_cell (t := 24) (cs := #[.int .i64 15, .int .i64 a1, .int .i64 x1, .slice AV vs.length cV, .int .i64 0, .int .i64 0, .int .i64 0]) (by (with_reducible repeat (first | refine blk_drewN ?_ _ | refine blk_drew ?_ | refine blk_alloc ?_ _)); refine blk_put (cs := #[.int .i64 15, .int .i64 a1, .int .i64 x1, .slice none 0 0, .int .i64 0, .int .i64 0, .int .i64 0]) ?_ 3 _ rfl; (with_reducible repeat (first | refine blk_drewN ?_ _ | refine blk_drew ?_ | refine blk_alloc ?_ _)); exact BK4.out) 2).trans rfl)
   clear hK K
   refine norm_ (a' := ?_) ?_ ?_
   rotate_left
   ·show Act.put _ (some 63) _ = _
    simp only [Act.put, List.setIfInBounds_toArray, List.set_cons_zero, List.set_cons_succ, i64_w, i32_w]
    rfl
   refine one_ (i := 4) (N := some 66) #[true, true, true, true, true, false, false, false, false, false] rfl rfl (by kernel_rfl) (by decide) (fun K hK => ?_)
   refine goes_ Try.func60 (by kernel_rfl) rfl #[.slice D6 lt6.length d6, .int .i64 x1] (by rfl) rfl rfl (by (try simp only [List.map_toArray, List.map_cons, List.map_nil]); first | done | rfl) ?_
   refine (PR.wire_Unpack.calls KF D6 d6 lt6 x1 vs eu _ (Kd.C_below HV6.out (by repeat (first | (with_reducible first | exact HB0.out | apply below_alloc | apply pw_below_drewN | apply below_drew1 | refine below_set ?_ GE2.out | refine below_set ?_ GE4.out | refine below_set ?_ GEL.out) | exact HB0.out))) HD6.out fU.out).mono ?_
   rintro e w7 ⟨vV, rfl, HRV, HBc⟩
   refine ⟨_, rfl, ?_⟩
   have BK4n : Aside0 (w7.heap[gb4]? = some (.cells #[.int .i64 15, .int .i64 a1, .int .i64 x1, .slice none 0 0, .int .i64 0, .int .i64 0, .int .i64 0] 24 (0, 0))) := Aside0.mk (blk_below (g := gb4) (bk_ BK4) HBc)
   have BK2n : Aside0 (w7.heap[gb2]? = some (.cells #[.int .i64 0, .int .i64 0, .int .i64 0, .slice none 0 0, .int .i64 0, .int .i64 0, .int .i64 0] 24 (0, 0))) := Aside0.mk (blk_below (g := gb2) (bk_ BK2) HBc)
   have HBn := Aside0.mk (below_step (by repeat (first | (with_reducible first | exact HB0.out | apply below_alloc | apply pw_below_drewN | apply below_drew1 | refine below_set ?_ GE2.out | refine below_set ?_ GE4.out | refine below_set ?_ GEL.out) | exact HB0.out)) HBc)
   obtain ⟨AV, cV, rfl⟩ := Kd.R_slice HRV
   have HVV : Aside0 ((Kd.int .i64).R 3 w7 w6.heap.size (fun _ => True) (.slice AV vs.length cV) vs) := ⟨Kd.R_lower HRV (by simp only [size_drewN', size_drew', size_set', size_alloc']; omega)⟩
   have G2 : Aside0 (gb2 < w6.heap.size) := ⟨blk_lt BK2.out⟩
   have G4 : Aside0 (gb4 < w6.heap.size) := ⟨blk_lt BK4.out⟩
   clear HB0 BK2 BK4 HRV HBc
   have HB0 := HBn
   have BK2 := BK2n
   have BK4 := BK4n
   clear HBn BK2n BK4n
   refine hK.out _ _ ?_ (fun hHeld => ?_)
   ·(first | exact (blk_cell (bk_ BK4) 2).trans rfl | exact (blk_cell (t := 24) (cs := #[.int .i64 15, .int .i64 a1, .int .i64 x1, .slice AV vs.length cV, .int .i64 0, .int .i64 0, .int .i64 0]) (by (with_reducible repeat (first | refine blk_drewN ?_ _ | refine blk_drew ?_ | refine blk_alloc ?_ _)); refine blk_put (cs := #[.int .i64 15, .int .i64 a1, .int .i64 x1, .slice none 0 0, .int .i64 0, .int .i64 0, .int .i64 0]) ?_ 3 _ rfl; (with_reducible repeat (first | refine blk_drewN ?_ _ | refine blk_drew ?_ | refine blk_alloc ?_ _)); exact BK4.out) 2).trans rfl)
   clear hK K
   refine norm_ (a' := ?_) ?_ ?_
   rotate_left
   ·show Act.put _ (some 66) _ = _
    simp only [Act.put, List.setIfInBounds_toArray, List.set_cons_zero, List.set_cons_succ, i64_w, i32_w]
    rfl
   refine pure_ (i := 5) (N := some 61) (v := ?_) (a' := ?_) #[true, true, true, true, true, true, false, false, false, false] rfl rfl (by kernel_rfl) (fun _ _ _ h => h) (Or.inl ⟨by rfl, ?_⟩) ?_ ?_
   rotate_left
   ·intro w'
    go_simp
    with_reducible rfl
   rotate_left
   ·simp only [Act.put, List.setIfInBounds_toArray, List.set_cons_zero, List.set_cons_succ, i64_w, i32_w]
    rfl
   refine pure_ (i := 6) (N := some 67) (v := ?_) (a' := ?_) #[true, true, true, true, true, true, true, false, false, false] rfl rfl (by kernel_rfl) (fun _ _ _ h => h) (Or.inl ⟨by rfl, ?_⟩) ?_ ?_
   rotate_left
   ·intro w'
    go_simp
    with_reducible rfl
   rotate_left
   ·simp only [Act.put, List.setIfInBounds_toArray, List.set_cons_zero, List.set_cons_succ, i64_w, i32_w]
    rfl
   refine pure_ (i := 7) (N := some 68) (v := ?_) (a' := ?_) #[true, true, true, true, true, true, true, true, false, false] rfl rfl (by kernel_rfl) (fun _ _ _ h => h) (Or.inl ⟨by rfl, ?_⟩) ?_ ?_
   rotate_left
   ·intro w'
    go_simp
    with_reducible rfl
   rotate_left
   ·simp only [Act.put, List.setIfInBounds_toArray, List.set_cons_zero, List.set_cons_succ, i64_w, i32_w]
    rfl
   refine pure_ (i := 8) (N := some 69) (v := ?_) (a' := ?_) #[true, true, true, true, true, true, true, true, true, false] rfl rfl (by kernel_rfl) (fun _ _ _ h => h) (Or.inl ⟨by rfl, ?_⟩) ?_ ?_
   rotate_left
   ·intro w'
    go_simp
    with_reducible rfl
   rotate_left
   ·simp only [Act.put, List.setIfInBounds_toArray, List.set_cons_zero, List.set_cons_succ, i64_w, i32_w]
    rfl
   refine one_ (i := 9) (N := none) #[true, true, true, true, true, true, true, true, true, true] rfl rfl (by kernel_rfl) (by decide) (fun K hK => ?_)
   refine cz7_ BK4.out ?_; intro hcz7_0 hcz7_1 hcz7_2 hcz7_3 hcz7_4 hcz7_5 hcz7_6 hfz7_0 hfz7_1 hfz7_2 hfz7_3 hfz7_4 hfz7_5 hfz7_6
   refine skip_ (w1 := ?_) (by rfl) rfl ?_ ?_
   rotate_left
   ·go_simp
    rfl
   refine hK.out _ _ ?_ (fun hHeld => ?_)
   ·(first | exact (blk_cell (bk_ BK4) 2).trans rfl | exact (blk_cell (t := 24) (cs := #[.int .i64 15, .int .i64 a1, .int .i64 x1, .slice AV vs.length cV, .int .i64 0, .int .i64 0, .int .i64 0]) (by (with_reducible repeat (first | refine blk_drewN ?_ _ | refine blk_drew ?_ | refine blk_alloc ?_ _)); refine blk_put (cs := #[.int .i64 15, .int .i64 a1, .int .i64 x1, .slice none 0 0, .int .i64 0, .int .i64 0, .int .i64 0]) ?_ 3 _ rfl; (with_reducible repeat (first | refine blk_drewN ?_ _ | refine blk_drew ?_ | refine blk_alloc ?_ _)); exact BK4.out) 2).trans rfl)
   clear hK K
   refine done_ (by kernel_rfl) ?_
   try go_wp2
   go_meet
   case rel => exact ⟨x1, vs, 0, 0, 0, AV, cV, ⟨by unfold cand; rw [if_neg (by decide), if_neg (by decide), if_neg (by decide), if_pos rfl, HX1.out, HVS.out, HLT6.out, show (min 6 (l0.length : Int)).toNat = min 6 l0.length from by omega]⟩, ⟨by (with_reducible repeat (first | refine blk_drewN ?_ _ | refine blk_drew ?_ | refine blk_alloc ?_ _)); refine blk_far ?_ NB24.out _; (with_reducible repeat (first | refine blk_drewN ?_ _ | refine blk_drew ?_ | refine blk_alloc ?_ _)); exact BK2.out⟩, ⟨by (with_reducible repeat (first | refine blk_drewN ?_ _ | refine blk_drew ?_ | refine blk_alloc ?_ _)); refine blk_put (cs := #[.int .i64 15, .int .i64 a1, .int .i64 x1, .slice none 0 0, .int .i64 0, .int .i64 0, .int .i64 0]) ?_ 3 _ rfl; (with_reducible repeat (first | refine blk_drewN ?_ _ | refine blk_drew ?_ | refine blk_alloc ?_ _)); exact BK4.out⟩, ⟨(Kd.R_reads' HVV.out).2.1⟩, ⟨by refine Kd.F_mono (Kd.F_far (p := ⟨gb4, 3, none⟩) (F_two HVV.out G2.out G4.out) (fun k hk => hk.2) _) (fun k hk => hk.1)⟩, ⟨by repeat (first | (with_reducible first | exact HB0.out | apply below_alloc | apply pw_below_drewN | apply below_drew1 | refine below_set ?_ GE2.out | refine below_set ?_ GE4.out | refine below_set ?_ GEL.out) | exact HB0.out)⟩⟩
  have hb15 : (fn == 15) = false := beq_eq_false_iff_ne.2 c15
  by_cases c23 : fn = 23
  ·subst c23
   obtain ⟨D10, lt10, d10, hlt10, hcut10, hV10, hd10⟩ := cut_u8 w (some ad) c0 l0 (min 10 (l0.length : Int)) (by omega) (by omega) HC0.out HR0.out
   have HLT10 := Aside0.mk hlt10
   have HV10 := Aside0.mk hV10
   have HD10 := Aside0.mk hd10
   clear hV10 hd10 hlt10
   have fW : Aside0 (PR.pdu_words.f KF lt10 = some (wordsOf lt10)) := ⟨pwords_f lt10 (by rw [HLT10.out]; exact bytes_drop HBY.out _) (by rw [HLT10.out, List.length_drop]; have := HL0.out; omega) KF (by rw [HLT10.out, List.length_drop]; have := HL0.out; have := HK.out; omega)⟩
   obtain ⟨vs, hvs⟩ : ∃ vs, vs = wordsOf lt10 := ⟨_, rfl⟩
   rw [← hvs] at fW
   have HVS := Aside0.mk hvs
   clear hvs
   by_cases h3 : 2 < L.length
   ·have hcL2 : w5.cell? ⟨gL, 2, none⟩ = some (.int .i64 (rd L 2)) := (Kd.R_celln (d := 0) HVL.out 2 (by omega) (by omega)).1
    have hp2 : (2 : Int) < (L.length : Int) := by omega
    have hp2b : decide ((2 : Int) < (L.length : Int)) = true := decide_eq_true hp2
    have hqi2 : (2 < L.length) = True := eq_true h3
    have H3 := Aside0.mk h3
    clear h3
    go_wp2_with (fail)
    have BK4n : Aside0 (((w5.setCell ⟨gb4, 1, none⟩ (.int .i64 a1)).setCell ⟨gb4, 4, none⟩ (.int .i64 (rd L 2))).drew.heap[gb4]? = some (.cells #[.int .i64 23, .int .i64 a1, .int .i64 0, .slice none 0 0, .int .i64 (rd L 2), .int .i64 0, .int .i64 0] 24 (0, 0))) := Aside0.mk (blk_drew (by (with_reducible repeat (first | refine blk_drewN ?_ _ | refine blk_drew ?_ | refine blk_alloc ?_ _)); refine blk_put (cs := #[.int .i64 23, .int .i64 a1, .int .i64 0, .slice none 0 0, .int .i64 0, .int .i64 0, .int .i64 0]) ?_ 4 _ rfl; (with_reducible repeat (first | refine blk_drewN ?_ _ | refine blk_drew ?_ | refine blk_alloc ?_ _)); refine blk_put (cs := #[.int .i64 23, .int .i64 0, .int .i64 0, .slice none 0 0, .int .i64 0, .int .i64 0, .int .i64 0]) ?_ 1 _ rfl; (with_reducible repeat (first | refine blk_drewN ?_ _ | refine blk_drew ?_ | refine blk_alloc ?_ _)); exact BK4.out))
    have BK2n : Aside0 (((w5.setCell ⟨gb4, 1, none⟩ (.int .i64 a1)).setCell ⟨gb4, 4, none⟩ (.int .i64 (rd L 2))).drew.heap[gb2]? = some (.cells #[.int .i64 0, .int .i64 0, .int .i64 0, .slice none 0 0, .int .i64 0, .int .i64 0, .int .i64 0] 24 (0, 0))) := Aside0.mk (blk_drew (by (with_reducible repeat (first | refine blk_drewN ?_ _ | refine blk_drew ?_ | refine blk_alloc ?_ _)); refine blk_far ?_ NB24.out _; (with_reducible repeat (first | refine blk_drewN ?_ _ | refine blk_drew ?_ | refine blk_alloc ?_ _)); refine blk_far ?_ NB24.out _; (with_reducible repeat (first | refine blk_drewN ?_ _ | refine blk_drew ?_ | refine blk_alloc ?_ _)); exact BK2.out))
    have HBn : Aside0 (Below w.heap.size w ((w5.setCell ⟨gb4, 1, none⟩ (.int .i64 a1)).setCell ⟨gb4, 4, none⟩ (.int .i64 (rd L 2))).drew) := Aside0.mk (by repeat (first | (with_reducible first | exact HB0.out | apply below_alloc | apply pw_below_drewN | apply below_drew1 | refine below_set ?_ GE2.out | refine below_set ?_ GE4.out | refine below_set ?_ GEL.out) | exact HB0.out))
    have HLc : Aside0 (((w5.setCell ⟨gb4, 1, none⟩ (.int .i64 a1)).setCell ⟨gb4, 4, none⟩ (.int .i64 (rd L 2))).drew.cell? ⟨gL, 1, none⟩ = some (.int .i64 x1)) := ⟨(((cell_far (W := w5.setCell ⟨gb4, 1, none⟩ (.int .i64 a1)) (p := ⟨gb4, 4, none⟩) (a := ⟨gL, 1, none⟩) NBL4.out _).trans (cell_far (W := w5) (p := ⟨gb4, 1, none⟩) (a := ⟨gL, 1, none⟩) NBL4.out (.int .i64 a1)))).trans hcL1⟩
    clear BK4 BK2 HB0 hcz5_0 hfz5_0 hcz5_1 hfz5_1 hcz5_2 hfz5_2 hcz5_3 hfz5_3 hcz5_4 hfz5_4 hcz5_5 hfz5_5 hcz5_6 hfz5_6
    have BK4 := BK4n
    have BK2 := BK2n
    have HB0 := HBn
    clear BK4n BK2n HBn
    refine start_ (n := 10) (S := fun W => W.cell? ⟨gL, 1, none⟩ = some (.int .i64 x1)) (ds := []) #[false, false, false, false, false, false, false, false, false, false] (by kernel_rfl) rfl rfl ?_ (fun hHeld => ?_)
    ·(first | exact HLc.out | exact (cell_far (p := ⟨gb4, 2, none⟩) (a := ⟨gL, 1, none⟩) NBL4.out _).trans HLc.out | exact (cell_far (p := ⟨gb4, 3, none⟩) (a := ⟨gL, 1, none⟩) NBL4.out _).trans ((cell_far (p := ⟨gb4, 2, none⟩) (a := ⟨gL, 1, none⟩) NBL4.out _).trans HLc.out))
    generalize ((w5.setCell ⟨gb4, 1, none⟩ (.int .i64 a1)).setCell ⟨gb4, 4, none⟩ (.int .i64 (rd L 2))).drew = w6 at BK4 BK2 HB0 HLc hHeld ⊢
    refine pure_ (i := 0) (N := some 77) (v := ?_) (a' := ?_) #[true, false, false, false, false, false, false, false, false, false] rfl rfl (by kernel_rfl) (fun _ _ _ h => h) (Or.inl ⟨by rfl, ?_⟩) ?_ ?_
    rotate_left
    ·intro w'
     go_simp
     with_reducible rfl
    rotate_left
    ·simp only [Act.put, List.setIfInBounds_toArray, List.set_cons_zero, List.set_cons_succ, i64_w, i32_w]
     rfl
    refine take_ (i := 1) (N := some 78) (v := ?_) (a' := ?_) #[true, true, false, false, false, false, false, false, false, false] rfl rfl (by kernel_rfl) (fun _ _ _ h => h) (Or.inl ⟨by rfl, ?_⟩) hHeld ?_ ?_
    rotate_left
    ·rintro w' hS_
     go_simp
     with_reducible rfl
    rotate_left
    ·simp only [Act.put, List.setIfInBounds_toArray, List.set_cons_zero, List.set_cons_succ, i64_w, i32_w]
     rfl
    refine take_ (i := 2) (N := some 79) (v := ?_) (a' := ?_) #[true, true, true, false, false, false, false, false, false, false] rfl rfl (by kernel_rfl) (fun _ _ _ h => h) (Or.inl ⟨by rfl, ?_⟩) hHeld ?_ ?_
    rotate_left
    ·rintro w' hS_
     go_simp
     with_reducible rfl
    rotate_left
    ·simp only [Act.put, List.setIfInBounds_toArray, List.set_cons_zero, List.set_cons_succ, i64_w, i32_w]
     rfl
    refine pure_ (i := 3) (N := some 80) (v := ?_) (a' := ?_) #[true, true, true, true, false, false, false, false, false, false] rfl rfl (by kernel_rfl) (fun _ _ _ h => h) (Or.inl ⟨by rfl, ?_⟩) ?_ ?_
    rotate_left
    ·intro w'
     go_simp
     with_reducible rfl
    rotate_left
    ·simp only [Act.put, List.setIfInBounds_toArray, List.set_cons_zero, List.set_cons_succ, i64_w, i32_w]
     rfl
    refine pure_ (i := 6) (N := some 83) (v := ?_) (a' := ?_) #[true, true, true, true, false, false, true, false, false, false] rfl rfl (by kernel_rfl) (fun _ _ _ h => h) (Or.inl ⟨by rfl, ?_⟩) ?_ ?_
    rotate_left
    ·intro w'
     go_simp
     with_reducible rfl
    rotate_left
    ·simp only [Act.put, List.setIfInBounds_toArray, List.set_cons_zero, List.set_cons_succ, i64_w, i32_w]
     rfl
    refine one_ (i := 4) (N := some 81) #[true, true, true, true, true, false, true, false, false, false] rfl rfl (by kernel_rfl) (by decide) (fun K hK => ?_)
    refine goes_ Try.func61 (by kernel_rfl) rfl #[.slice (some ad) l0.length c0, .int .i64 10] (by rfl) rfl rfl (by (try simp only [List.map_toArray, List.map_cons, List.map_nil]); first | done | rfl) ?_
    refine (pdu_from.calls (some ad) c0 l0 10 _ (.slice D10 lt10.length d10) _ hcut10 rfl).mono ?_
    rintro e w' ⟨rfl, ⟨nd, rfl⟩⟩
    refine ⟨_, rfl, ?_⟩
    refine hK.out _ _ ?_ (fun hHeld => ?_)
    ·(first | exact HLc.out | exact (cell_far (p := ⟨gb4, 2, none⟩) (a := ⟨gL, 1, none⟩) NBL4.out _).trans HLc.out | exact (cell_far (p := ⟨gb4, 3, none⟩) (a := ⟨gL, 1, none⟩) NBL4.out _).trans ((cell_far (p := ⟨gb4, 2, none⟩) (a := ⟨gL, 1, none⟩) NBL4.out _).trans HLc.out))
    clear hK K
    refine norm_ (a' := ?_) ?_ ?_
    rotate_left
    ·show Act.put _ (some 81) _ = _
     simp only [Act.put, List.setIfInBounds_toArray, List.set_cons_zero, List.set_cons_succ, i64_w, i32_w]
     rfl
    refine one_ (i := 5) (N := some 82) #[true, true, true, true, true, true, true, false, false, false] rfl rfl (by kernel_rfl) (by decide) (fun K hK => ?_)
    refine goes_ Try.func59 (by kernel_rfl) rfl #[.slice D10 lt10.length d10] (by rfl) rfl rfl (by (try simp only [List.map_toArray, List.map_cons, List.map_nil]); first | done | rfl) ?_
    refine (PR.pdu_words.calls KF D10 d10 lt10 vs _ (Kd.C_below HV10.out (by repeat (first | (with_reducible first | exact HB0.out | apply below_alloc | apply pw_below_drewN | apply below_drew1 | refine below_set ?_ GE2.out | refine below_set ?_ GE4.out | refine below_set ?_ GEL.out) | exact HB0.out))) HD10.out fW.out).mono ?_
    rintro e w7 ⟨vV, rfl, HRV, HBc⟩
    refine ⟨_, rfl, ?_⟩
    have BK4n : Aside0 (w7.heap[gb4]? = some (.cells #[.int .i64 23, .int .i64 a1, .int .i64 0, .slice none 0 0, .int .i64 (rd L 2), .int .i64 0, .int .i64 0] 24 (0, 0))) := Aside0.mk (blk_below (g := gb4) (bk_ BK4) HBc)
    have BK2n : Aside0 (w7.heap[gb2]? = some (.cells #[.int .i64 0, .int .i64 0, .int .i64 0, .slice none 0 0, .int .i64 0, .int .i64 0, .int .i64 0] 24 (0, 0))) := Aside0.mk (blk_below (g := gb2) (bk_ BK2) HBc)
    have HBn := Aside0.mk (below_step (by repeat (first | (with_reducible first | exact HB0.out | apply below_alloc | apply pw_below_drewN | apply below_drew1 | refine below_set ?_ GE2.out | refine below_set ?_ GE4.out | refine below_set ?_ GEL.out) | exact HB0.out)) HBc)
    have HLn : Aside0 (w7.cell? ⟨gL, 1, none⟩ = some (.int .i64 x1)) := ⟨(HBc.cell (World.block_lt_of_cell? _ _ (show (w6.drewN nd).cell? ⟨gL, 1, none⟩ = some (.int .i64 x1) from HLc.out))).trans HLc.out⟩
    obtain ⟨AV, cV, rfl⟩ := Kd.R_slice HRV
    have HVV : Aside0 ((Kd.int .i64).R 3 w7 w6.heap.size (fun _ => True) (.slice AV vs.length cV) vs) := ⟨Kd.R_lower HRV (by simp only [size_drewN', size_drew', size_set', size_alloc']; omega)⟩
    have G2 : Aside0 (gb2 < w6.heap.size) := ⟨blk_lt BK2.out⟩
    have G4 : Aside0 (gb4 < w6.heap.size) := ⟨blk_lt BK4.out⟩
    clear HB0 BK2 BK4 HRV HBc HLc
    have HB0 := HBn
    have BK2 := BK2n
    have BK4 := BK4n
    have HLc := HLn
    clear HLn
    clear HBn BK2n BK4n
    refine hK.out _ _ ?_ (fun hHeld => ?_)
    ·(first | exact HLc.out | exact (cell_far (p := ⟨gb4, 2, none⟩) (a := ⟨gL, 1, none⟩) NBL4.out _).trans HLc.out | exact (cell_far (p := ⟨gb4, 3, none⟩) (a := ⟨gL, 1, none⟩) NBL4.out _).trans ((cell_far (p := ⟨gb4, 2, none⟩) (a := ⟨gL, 1, none⟩) NBL4.out _).trans HLc.out))
    clear hK K
    refine norm_ (a' := ?_) ?_ ?_
    rotate_left
    ·show Act.put _ (some 82) _ = _
     simp only [Act.put, List.setIfInBounds_toArray, List.set_cons_zero, List.set_cons_succ, i64_w, i32_w]
     rfl
    refine one_ (i := 7) (N := none) #[true, true, true, true, true, true, true, true, false, false] rfl rfl (by kernel_rfl) (by decide) (fun K hK => ?_)
    refine cz7_ BK4.out ?_; intro hcz7_0 hcz7_1 hcz7_2 hcz7_3 hcz7_4 hcz7_5 hcz7_6 hfz7_0 hfz7_1 hfz7_2 hfz7_3 hfz7_4 hfz7_5 hfz7_6
    refine skip_ (w1 := ?_) (by rfl) rfl ?_ ?_
    rotate_left
    ·go_simp
     rfl
    refine hK.out _ _ ?_ (fun hHeld => ?_)
    ·(first | exact HLc.out | exact (cell_far (p := ⟨gb4, 2, none⟩) (a := ⟨gL, 1, none⟩) NBL4.out _).trans HLc.out | exact (cell_far (p := ⟨gb4, 3, none⟩) (a := ⟨gL, 1, none⟩) NBL4.out _).trans ((cell_far (p := ⟨gb4, 2, none⟩) (a := ⟨gL, 1, none⟩) NBL4.out _).trans HLc.out))
    clear hK K
    refine pure_ (i := 8) (N := some 84) (v := ?_) (a' := ?_) #[true, true, true, true, true, true, true, true, true, false] rfl rfl (by kernel_rfl) (fun _ _ _ h => h) (Or.inl ⟨by rfl, ?_⟩) ?_ ?_
    rotate_left
    ·intro w'
     go_simp
     with_reducible rfl
    rotate_left
    ·simp only [Act.put, List.setIfInBounds_toArray, List.set_cons_zero, List.set_cons_succ, i64_w, i32_w]
     rfl
    refine one_ (i := 9) (N := none) #[true, true, true, true, true, true, true, true, true, true] rfl rfl (by kernel_rfl) (by decide) (fun K hK => ?_)
    refine skip_ (w1 := ?_) (by rfl) rfl ?_ ?_
    rotate_left
    ·go_simp
     rfl
    refine hK.out _ _ ?_ (fun hHeld => ?_)
    ·(first | exact HLc.out | exact (cell_far (p := ⟨gb4, 2, none⟩) (a := ⟨gL, 1, none⟩) NBL4.out _).trans HLc.out | exact (cell_far (p := ⟨gb4, 3, none⟩) (a := ⟨gL, 1, none⟩) NBL4.out _).trans ((cell_far (p := ⟨gb4, 2, none⟩) (a := ⟨gL, 1, none⟩) NBL4.out _).trans HLc.out))
    clear hK K
    refine done_ (by kernel_rfl) ?_
    try go_wp2
    go_meet
    case rel => exact ⟨x1, vs, (rd L 2), 0, 0, AV, cV, ⟨by unfold cand; rw [if_neg (by decide), if_neg (by decide), if_neg (by decide), if_neg (by decide), if_pos rfl, HX1.out, if_pos H3.out, HVS.out, HLT10.out, show (min 10 (l0.length : Int)).toNat = min 10 l0.length from by omega]⟩, ⟨by (with_reducible repeat (first | refine blk_drewN ?_ _ | refine blk_drew ?_ | refine blk_alloc ?_ _)); refine blk_far ?_ NB24.out _; (with_reducible repeat (first | refine blk_drewN ?_ _ | refine blk_drew ?_ | refine blk_alloc ?_ _)); refine blk_far ?_ NB24.out _; (with_reducible repeat (first | refine blk_drewN ?_ _ | refine blk_drew ?_ | refine blk_alloc ?_ _)); exact BK2.out⟩, ⟨by (with_reducible repeat (first | refine blk_drewN ?_ _ | refine blk_drew ?_ | refine blk_alloc ?_ _)); refine blk_put (cs := #[.int .i64 23, .int .i64 a1, .int .i64 x1, .slice none 0 0, .int .i64 (rd L 2), .int .i64 0, .int .i64 0]) ?_ 3 _ rfl; (with_reducible repeat (first | refine blk_drewN ?_ _ | refine blk_drew ?_ | refine blk_alloc ?_ _)); refine blk_put (cs := #[.int .i64 23, .int .i64 a1, .int .i64 0, .slice none 0 0, .int .i64 (rd L 2), .int .i64 0, .int .i64 0]) ?_ 2 _ rfl; (with_reducible repeat (first | refine blk_drewN ?_ _ | refine blk_drew ?_ | refine blk_alloc ?_ _)); exact BK4.out⟩, ⟨(Kd.R_reads' HVV.out).2.1⟩, ⟨by refine Kd.F_mono (Kd.F_far (p := ⟨gb4, 3, none⟩) (Kd.F_far (p := ⟨gb4, 2, none⟩) (F_two HVV.out G2.out G4.out) (fun k hk => hk.2) _) (fun k hk => hk.2) _) (fun k hk => hk.1)⟩, ⟨by repeat (first | (with_reducible first | exact HB0.out | apply below_alloc | apply pw_below_drewN | apply below_drew1 | refine below_set ?_ GE2.out | refine below_set ?_ GE4.out | refine below_set ?_ GEL.out) | exact HB0.out)⟩⟩
   ·have hp2b : decide ((2 : Int) < (L.length : Int)) = false := decide_eq_false (by omega)
    have hp2 : (L.length : Int) ≤ 2 := by omega
    have H3 := Aside0.mk h3
    clear h3
    go_wp2_with (fail)
    have BK4n : Aside0 ((w5.setCell ⟨gb4, 1, none⟩ (.int .i64 a1)).drew.heap[gb4]? = some (.cells #[.int .i64 23, .int .i64 a1, .int .i64 0, .slice none 0 0, .int .i64 0, .int .i64 0, .int .i64 0] 24 (0, 0))) := Aside0.mk (blk_drew (by (with_reducible repeat (first | refine blk_drewN ?_ _ | refine blk_drew ?_ | refine blk_alloc ?_ _)); refine blk_put (cs := #[.int .i64 23, .int .i64 0, .int .i64 0, .slice none 0 0, .int .i64 0, .int .i64 0, .int .i64 0]) ?_ 1 _ rfl; (with_reducible repeat (first | refine blk_drewN ?_ _ | refine blk_drew ?_ | refine blk_alloc ?_ _)); exact BK4.out))
    have BK2n : Aside0 ((w5.setCell ⟨gb4, 1, none⟩ (.int .i64 a1)).drew.heap[gb2]? = some (.cells #[.int .i64 0, .int .i64 0, .int .i64 0, .slice none 0 0, .int .i64 0, .int .i64 0, .int .i64 0] 24 (0, 0))) := Aside0.mk (blk_drew (by (with_reducible repeat (first | refine blk_drewN ?_ _ | refine blk_drew ?_ | refine blk_alloc ?_ _)); refine blk_far ?_ NB24.out _; (with_reducible repeat (first | refine blk_drewN ?_ _ | refine blk_drew ?_ | refine blk_alloc ?_ _)); exact BK2.out))
    have HBn : Aside0 (Below w.heap.size w (w5.setCell ⟨gb4, 1, none⟩ (.int .i64 a1)).drew) := Aside0.mk (by repeat (first | (with_reducible first | exact HB0.out | apply below_alloc | apply pw_below_drewN | apply below_drew1 | refine below_set ?_ GE2.out | refine below_set ?_ GE4.out | refine below_set ?_ GEL.out) | exact HB0.out))
    have HLc : Aside0 ((w5.setCell ⟨gb4, 1, none⟩ (.int .i64 a1)).drew.cell? ⟨gL, 1, none⟩ = some (.int .i64 x1)) := ⟨(cell_far (W := w5) (p := ⟨gb4, 1, none⟩) (a := ⟨gL, 1, none⟩) NBL4.out (.int .i64 a1)).trans hcL1⟩
    clear BK4 BK2 HB0 hcz5_0 hfz5_0 hcz5_1 hfz5_1 hcz5_2 hfz5_2 hcz5_3 hfz5_3 hcz5_4 hfz5_4 hcz5_5 hfz5_5 hcz5_6 hfz5_6
    have BK4 := BK4n
    have BK2 := BK2n
    have HB0 := HBn
    clear BK4n BK2n HBn
    refine start_ (n := 10) (S := fun W => W.cell? ⟨gL, 1, none⟩ = some (.int .i64 x1)) (ds := []) #[false, false, false, false, false, false, false, false, false, false] (by kernel_rfl) rfl rfl ?_ (fun hHeld => ?_)
    ·(first | exact HLc.out | exact (cell_far (p := ⟨gb4, 2, none⟩) (a := ⟨gL, 1, none⟩) NBL4.out _).trans HLc.out | exact (cell_far (p := ⟨gb4, 3, none⟩) (a := ⟨gL, 1, none⟩) NBL4.out _).trans ((cell_far (p := ⟨gb4, 2, none⟩) (a := ⟨gL, 1, none⟩) NBL4.out _).trans HLc.out))
    generalize (w5.setCell ⟨gb4, 1, none⟩ (.int .i64 a1)).drew = w6 at BK4 BK2 HB0 HLc hHeld ⊢
    refine pure_ (i := 0) (N := some 77) (v := ?_) (a' := ?_) #[true, false, false, false, false, false, false, false, false, false] rfl rfl (by kernel_rfl) (fun _ _ _ h => h) (Or.inl ⟨by rfl, ?_⟩) ?_ ?_
    rotate_left
    ·intro w'
     go_simp
     with_reducible rfl
    rotate_left
    ·simp only [Act.put, List.setIfInBounds_toArray, List.set_cons_zero, List.set_cons_succ, i64_w, i32_w]
     rfl
    refine take_ (i := 1) (N := some 78) (v := ?_) (a' := ?_) #[true, true, false, false, false, false, false, false, false, false] rfl rfl (by kernel_rfl) (fun _ _ _ h => h) (Or.inl ⟨by rfl, ?_⟩) hHeld ?_ ?_
    rotate_left
    ·rintro w' hS_
     go_simp
     with_reducible rfl
    rotate_left
    ·simp only [Act.put, List.setIfInBounds_toArray, List.set_cons_zero, List.set_cons_succ, i64_w, i32_w]
     rfl
    refine take_ (i := 2) (N := some 79) (v := ?_) (a' := ?_) #[true, true, true, false, false, false, false, false, false, false] rfl rfl (by kernel_rfl) (fun _ _ _ h => h) (Or.inl ⟨by rfl, ?_⟩) hHeld ?_ ?_
    rotate_left
    ·rintro w' hS_
     go_simp
     with_reducible rfl
    rotate_left
    ·simp only [Act.put, List.setIfInBounds_toArray, List.set_cons_zero, List.set_cons_succ, i64_w, i32_w]
     rfl
    refine pure_ (i := 3) (N := some 80) (v := ?_) (a' := ?_) #[true, true, true, true, false, false, false, false, false, false] rfl rfl (by kernel_rfl) (fun _ _ _ h => h) (Or.inl ⟨by rfl, ?_⟩) ?_ ?_
    rotate_left
    ·intro w'
     go_simp
     with_reducible rfl
    rotate_left
    ·simp only [Act.put, List.setIfInBounds_toArray, List.set_cons_zero, List.set_cons_succ, i64_w, i32_w]
     rfl
    refine pure_ (i := 6) (N := some 83) (v := ?_) (a' := ?_) #[true, true, true, true, false, false, true, false, false, false] rfl rfl (by kernel_rfl) (fun _ _ _ h => h) (Or.inl ⟨by rfl, ?_⟩) ?_ ?_
    rotate_left
    ·intro w'
     go_simp
     with_reducible rfl
    rotate_left
    ·simp only [Act.put, List.setIfInBounds_toArray, List.set_cons_zero, List.set_cons_succ, i64_w, i32_w]
     rfl
    refine one_ (i := 4) (N := some 81) #[true, true, true, true, true, false, true, false, false, false] rfl rfl (by kernel_rfl) (by decide) (fun K hK => ?_)
    refine goes_ Try.func61 (by kernel_rfl) rfl #[.slice (some ad) l0.length c0, .int .i64 10] (by rfl) rfl rfl (by (try simp only [List.map_toArray, List.map_cons, List.map_nil]); first | done | rfl) ?_
    refine (pdu_from.calls (some ad) c0 l0 10 _ (.slice D10 lt10.length d10) _ hcut10 rfl).mono ?_
    rintro e w' ⟨rfl, ⟨nd, rfl⟩⟩
    refine ⟨_, rfl, ?_⟩
    refine hK.out _ _ ?_ (fun hHeld => ?_)
    ·(first | exact HLc.out | exact (cell_far (p := ⟨gb4, 2, none⟩) (a := ⟨gL, 1, none⟩) NBL4.out _).trans HLc.out | exact (cell_far (p := ⟨gb4, 3, none⟩) (a := ⟨gL, 1, none⟩) NBL4.out _).trans ((cell_far (p := ⟨gb4, 2, none⟩) (a := ⟨gL, 1, none⟩) NBL4.out _).trans HLc.out))
    clear hK K
    refine norm_ (a' := ?_) ?_ ?_
    rotate_left
    ·show Act.put _ (some 81) _ = _
     simp only [Act.put, List.setIfInBounds_toArray, List.set_cons_zero, List.set_cons_succ, i64_w, i32_w]
     rfl
    refine one_ (i := 5) (N := some 82) #[true, true, true, true, true, true, true, false, false, false] rfl rfl (by kernel_rfl) (by decide) (fun K hK => ?_)
    refine goes_ Try.func59 (by kernel_rfl) rfl #[.slice D10 lt10.length d10] (by rfl) rfl rfl (by (try simp only [List.map_toArray, List.map_cons, List.map_nil]); first | done | rfl) ?_
    refine (PR.pdu_words.calls KF D10 d10 lt10 vs _ (Kd.C_below HV10.out (by repeat (first | (with_reducible first | exact HB0.out | apply below_alloc | apply pw_below_drewN | apply below_drew1 | refine below_set ?_ GE2.out | refine below_set ?_ GE4.out | refine below_set ?_ GEL.out) | exact HB0.out))) HD10.out fW.out).mono ?_
    rintro e w7 ⟨vV, rfl, HRV, HBc⟩
    refine ⟨_, rfl, ?_⟩
    have BK4n : Aside0 (w7.heap[gb4]? = some (.cells #[.int .i64 23, .int .i64 a1, .int .i64 0, .slice none 0 0, .int .i64 0, .int .i64 0, .int .i64 0] 24 (0, 0))) := Aside0.mk (blk_below (g := gb4) (bk_ BK4) HBc)
    have BK2n : Aside0 (w7.heap[gb2]? = some (.cells #[.int .i64 0, .int .i64 0, .int .i64 0, .slice none 0 0, .int .i64 0, .int .i64 0, .int .i64 0] 24 (0, 0))) := Aside0.mk (blk_below (g := gb2) (bk_ BK2) HBc)
    have HBn := Aside0.mk (below_step (by repeat (first | (with_reducible first | exact HB0.out | apply below_alloc | apply pw_below_drewN | apply below_drew1 | refine below_set ?_ GE2.out | refine below_set ?_ GE4.out | refine below_set ?_ GEL.out) | exact HB0.out)) HBc)
    have HLn : Aside0 (w7.cell? ⟨gL, 1, none⟩ = some (.int .i64 x1)) := ⟨(HBc.cell (World.block_lt_of_cell? _ _ (show (w6.drewN nd).cell? ⟨gL, 1, none⟩ = some (.int .i64 x1) from HLc.out))).trans HLc.out⟩
    obtain ⟨AV, cV, rfl⟩ := Kd.R_slice HRV
    have HVV : Aside0 ((Kd.int .i64).R 3 w7 w6.heap.size (fun _ => True) (.slice AV vs.length cV) vs) := ⟨Kd.R_lower HRV (by simp only [size_drewN', size_drew', size_set', size_alloc']; omega)⟩
    have G2 : Aside0 (gb2 < w6.heap.size) := ⟨blk_lt BK2.out⟩
    have G4 : Aside0 (gb4 < w6.heap.size) := ⟨blk_lt BK4.out⟩
    clear HB0 BK2 BK4 HRV HBc HLc
    have HB0 := HBn
    have BK2 := BK2n
    have BK4 := BK4n
    have HLc := HLn
    clear HLn
    clear HBn BK2n BK4n
    refine hK.out _ _ ?_ (fun hHeld => ?_)
    ·(first | exact HLc.out | exact (cell_far (p := ⟨gb4, 2, none⟩) (a := ⟨gL, 1, none⟩) NBL4.out _).trans HLc.out | exact (cell_far (p := ⟨gb4, 3, none⟩) (a := ⟨gL, 1, none⟩) NBL4.out _).trans ((cell_far (p := ⟨gb4, 2, none⟩) (a := ⟨gL, 1, none⟩) NBL4.out _).trans HLc.out))
    clear hK K
    refine norm_ (a' := ?_) ?_ ?_
    rotate_left
    ·show Act.put _ (some 82) _ = _
     simp only [Act.put, List.setIfInBounds_toArray, List.set_cons_zero, List.set_cons_succ, i64_w, i32_w]
     rfl
    refine one_ (i := 7) (N := none) #[true, true, true, true, true, true, true, true, false, false] rfl rfl (by kernel_rfl) (by decide) (fun K hK => ?_)
    refine cz7_ BK4.out ?_; intro hcz7_0 hcz7_1 hcz7_2 hcz7_3 hcz7_4 hcz7_5 hcz7_6 hfz7_0 hfz7_1 hfz7_2 hfz7_3 hfz7_4 hfz7_5 hfz7_6
    refine skip_ (w1 := ?_) (by rfl) rfl ?_ ?_
    rotate_left
    ·go_simp
     rfl
    refine hK.out _ _ ?_ (fun hHeld => ?_)
    ·(first | exact HLc.out | exact (cell_far (p := ⟨gb4, 2, none⟩) (a := ⟨gL, 1, none⟩) NBL4.out _).trans HLc.out | exact (cell_far (p := ⟨gb4, 3, none⟩) (a := ⟨gL, 1, none⟩) NBL4.out _).trans ((cell_far (p := ⟨gb4, 2, none⟩) (a := ⟨gL, 1, none⟩) NBL4.out _).trans HLc.out))
    clear hK K
    refine pure_ (i := 8) (N := some 84) (v := ?_) (a' := ?_) #[true, true, true, true, true, true, true, true, true, false] rfl rfl (by kernel_rfl) (fun _ _ _ h => h) (Or.inl ⟨by rfl, ?_⟩) ?_ ?_
    rotate_left
    ·intro w'
     go_simp
     with_reducible rfl
    rotate_left
    ·simp only [Act.put, List.setIfInBounds_toArray, List.set_cons_zero, List.set_cons_succ, i64_w, i32_w]
     rfl
    refine one_ (i := 9) (N := none) #[true, true, true, true, true, true, true, true, true, true] rfl rfl (by kernel_rfl) (by decide) (fun K hK => ?_)
    refine skip_ (w1 := ?_) (by rfl) rfl ?_ ?_
    rotate_left
    ·go_simp
     rfl
    refine hK.out _ _ ?_ (fun hHeld => ?_)
    ·(first | exact HLc.out | exact (cell_far (p := ⟨gb4, 2, none⟩) (a := ⟨gL, 1, none⟩) NBL4.out _).trans HLc.out | exact (cell_far (p := ⟨gb4, 3, none⟩) (a := ⟨gL, 1, none⟩) NBL4.out _).trans ((cell_far (p := ⟨gb4, 2, none⟩) (a := ⟨gL, 1, none⟩) NBL4.out _).trans HLc.out))
    clear hK K
    refine done_ (by kernel_rfl) ?_
    try go_wp2
    go_meet
    case rel => exact ⟨x1, vs, 0, 0, 0, AV, cV, ⟨by unfold cand; rw [if_neg (by decide), if_neg (by decide), if_neg (by decide), if_neg (by decide), if_pos rfl, HX1.out, if_neg H3.out, HVS.out, HLT10.out, show (min 10 (l0.length : Int)).toNat = min 10 l0.length from by omega]⟩, ⟨by (with_reducible repeat (first | refine blk_drewN ?_ _ | refine blk_drew ?_ | refine blk_alloc ?_ _)); refine blk_far ?_ NB24.out _; (with_reducible repeat (first | refine blk_drewN ?_ _ | refine blk_drew ?_ | refine blk_alloc ?_ _)); refine blk_far ?_ NB24.out _; (with_reducible repeat (first | refine blk_drewN ?_ _ | refine blk_drew ?_ | refine blk_alloc ?_ _)); exact BK2.out⟩, ⟨by (with_reducible repeat (first | refine blk_drewN ?_ _ | refine blk_drew ?_ | refine blk_alloc ?_ _)); refine blk_put (cs := #[.int .i64 23, .int .i64 a1, .int .i64 x1, .slice none 0 0, .int .i64 0, .int .i64 0, .int .i64 0]) ?_ 3 _ rfl; (with_reducible repeat (first | refine blk_drewN ?_ _ | refine blk_drew ?_ | refine blk_alloc ?_ _)); refine blk_put (cs := #[.int .i64 23, .int .i64 a1, .int .i64 0, .slice none 0 0, .int .i64 0, .int .i64 0, .int .i64 0]) ?_ 2 _ rfl; (with_reducible repeat (first | refine blk_drewN ?_ _ | refine blk_drew ?_ | refine blk_alloc ?_ _)); exact BK4.out⟩, ⟨(Kd.R_reads' HVV.out).2.1⟩, ⟨by refine Kd.F_mono (Kd.F_far (p := ⟨gb4, 3, none⟩) (Kd.F_far (p := ⟨gb4, 2, none⟩) (F_two HVV.out G2.out G4.out) (fun k hk => hk.2) _) (fun k hk => hk.2) _) (fun k hk => hk.1)⟩, ⟨by repeat (first | (with_reducible first | exact HB0.out | apply below_alloc | apply pw_below_drewN | apply below_drew1 | refine below_set ?_ GE2.out | refine below_set ?_ GE4.out | refine below_set ?_ GEL.out) | exact HB0.out)⟩⟩
  have hb23 : (fn == 23) = false := beq_eq_false_iff_ne.2 c23
  by_cases c16 : fn = 16
  ·subst c16
   obtain ⟨D6, lt6, d6, hlt6, hcut6, hV6, hd6⟩ := cut_u8 w (some ad) c0 l0 (min 6 (l0.length : Int)) (by omega) (by omega) HC0.out HR0.out
   have HLT6 := Aside0.mk hlt6
   have HV6 := Aside0.mk hV6
   have HD6 := Aside0.mk hd6
   clear hV6 hd6 hlt6
   have fW : Aside0 (PR.pdu_words.f KF lt6 = some (wordsOf lt6)) := ⟨pwords_f lt6 (by rw [HLT6.out]; exact bytes_drop HBY.out _) (by rw [HLT6.out, List.length_drop]; have := HL0.out; omega) KF (by rw [HLT6.out, List.length_drop]; have := HL0.out; have := HK.out; omega)⟩
   obtain ⟨vs, hvs⟩ : ∃ vs, vs = wordsOf lt6 := ⟨_, rfl⟩
   rw [← hvs] at fW
   have HVS := Aside0.mk hvs
   clear hvs
   go_wp2_with (first | (go_at_call 61; refine (pdu_from.calls (some ad) c0 l0 6 _ (.slice D6 lt6.length d6) _ hcut6 rfl).mono ?_; rintro e w' ⟨rfl, ⟨nd, rfl⟩⟩) | (go_at_call 59; refine (PR.pdu_words.calls KF D6 d6 lt6 vs _ (Kd.C_below HV6.out (by repeat (first | (with_reducible first | exact HB0.out | apply below_alloc | apply pw_below_drewN | apply below_drew1 | refine below_set ?_ GE2.out | refine below_set ?_ GE4.out | refine below_set ?_ GEL.out) | exact HB0.out))) HD6.out fW.out).mono ?_; rintro e w6 ⟨vV, rfl, HRV, HBc⟩; have BK4n : Aside0 (w6.heap[gb4]? = some (.cells #[.int .i64 16, .int .i64 a1, .int .i64 0, .slice none 0 0, .int .i64 0, .int .i64 0, .int .i64 0] 24 (0, 0))) := Aside0.mk (blk_below (g := gb4) (by (with_reducible repeat (first | refine blk_drewN ?_ _ | refine blk_drew ?_ | refine blk_alloc ?_ _)); refine blk_put (cs := #[.int .i64 16, .int .i64 0, .int .i64 0, .slice none 0 0, .int .i64 0, .int .i64 0, .int .i64 0]) ?_ 1 _ rfl; (with_reducible repeat (first | refine blk_drewN ?_ _ | refine blk_drew ?_ | refine blk_alloc ?_ _)); exact BK4.out) HBc); have BK2n : Aside0 (w6.heap[gb2]? = some (.cells #[.int .i64 0, .int .i64 0, .int .i64 0, .slice none 0 0, .int .i64 0, .int .i64 0, .int .i64 0] 24 (0, 0))) := Aside0.mk (blk_below (g := gb2) (by (with_reducible repeat (first | refine blk_drewN ?_ _ | refine blk_drew ?_ | refine blk_alloc ?_ _)); refine blk_far ?_ NB24.out _; (with_reducible repeat (first | refine blk_drewN ?_ _ | refine blk_drew ?_ | refine blk_alloc ?_ _)); exact BK2.out) HBc); have HBn := Aside0.mk (below_step (by repeat (first | (with_reducible first | exact HB0.out | apply below_alloc | apply pw_below_drewN | apply below_drew1 | refine below_set ?_ GE2.out | refine below_set ?_ GE4.out | refine below_set ?_ GEL.out) | exact HB0.out)) HBc); have hq1 := (cell_far (W := w5) (p := ⟨gb4, 1, none⟩) (a := ⟨gL, 1, none⟩) NBL4.out (.int .i64 a1)).trans hcL1; have HL6 : Aside0 (w6.cell? ⟨gL, 1, none⟩ = some (.int .i64 x1)) := ⟨(HBc.cell (World.block_lt_of_cell? _ _ hq1)).trans hq1⟩; clear hq1; have hg2 := blk_lt BK2.out; have hgc := below_size (Below.refl w5.heap.size w5); obtain ⟨AV, cV, rfl⟩ := Kd.R_slice HRV; have HVV : Aside0 ((Kd.int .i64).R 3 w6 w5.heap.size (fun _ => True) (.slice AV vs.length cV) vs) := ⟨Kd.R_lower HRV (by simp only [size_drewN', size_drew', size_set', size_alloc']; omega)⟩; have G2 : Aside0 (gb2 < w5.heap.size) := ⟨hg2⟩; have G4 : Aside0 (gb4 < w5.heap.size) := ⟨blk_lt BK4.out⟩; clear HB0 BK2 BK4 hg2 hgc HRV HBc hcz5_0 hfz5_0 hcz5_1 hfz5_1 hcz5_2 hfz5_2 hcz5_3 hfz5_3 hcz5_4 hfz5_4 hcz5_5 hfz5_5 hcz5_6 hfz5_6 hcL0 hcL1 hfL1; have HB0 := HBn; have BK2 := BK2n; have BK4 := BK4n; clear HBn BK2n BK4n; have hcl1 : w6.cell? ⟨gL, 1, none⟩ = some (.int .i64 x1) := HL6.out; refine cz7_ BK4.out ?_; intro hcz6_0 hcz6_1 hcz6_2 hcz6_3 hcz6_4 hcz6_5 hcz6_6 hfz6_0 hfz6_1 hfz6_2 hfz6_3 hfz6_4 hfz6_5 hfz6_6))
   go_meet
   case rel => exact ⟨x1, vs, 0, 0, 0, AV, cV, ⟨by unfold cand; rw [if_neg (by decide), if_neg (by decide), if_neg (by decide), if_neg (by decide), if_neg (by decide), if_pos rfl, HX1.out, HVS.out, HLT6.out, show (min 6 (l0.length : Int)).toNat = min 6 l0.length from by omega]⟩, ⟨by (with_reducible repeat (first | refine blk_drewN ?_ _ | refine blk_drew ?_ | refine blk_alloc ?_ _)); refine blk_far ?_ NB24.out _; (with_reducible repeat (first | refine blk_drewN ?_ _ | refine blk_drew ?_ | refine blk_alloc ?_ _)); refine blk_far ?_ NB24.out _; (with_reducible repeat (first | refine blk_drewN ?_ _ | refine blk_drew ?_ | refine blk_alloc ?_ _)); exact BK2.out⟩, ⟨by (with_reducible repeat (first | refine blk_drewN ?_ _ | refine blk_drew ?_ | refine blk_alloc ?_ _)); refine blk_put (cs := #[.int .i64 16, .int .i64 a1, .int .i64 0, .slice AV vs.length cV, .int .i64 0, .int .i64 0, .int .i64 0]) ?_ 2 _ rfl; (with_reducible repeat (first | refine blk_drewN ?_ _ | refine blk_drew ?_ | refine blk_alloc ?_ _)); refine blk_put (cs := #[.int .i64 16, .int .i64 a1, .int .i64 0, .slice none 0 0, .int .i64 0, .int .i64 0, .int .i64 0]) ?_ 3 _ rfl; (with_reducible repeat (first | refine blk_drewN ?_ _ | refine blk_drew ?_ | refine blk_alloc ?_ _)); exact BK4.out⟩, ⟨(Kd.R_reads' HVV.out).2.1⟩, ⟨by refine Kd.F_mono (Kd.F_far (p := ⟨gb4, 2, none⟩) (Kd.F_far (p := ⟨gb4, 3, none⟩) (F_two HVV.out G2.out G4.out) (fun k hk => hk.2) _) (fun k hk => hk.2) _) (fun k hk => hk.1)⟩, ⟨by repeat (first | (with_reducible first | exact HB0.out | apply below_alloc | apply pw_below_drewN | apply below_drew1 | refine below_set ?_ GE2.out | refine below_set ?_ GE4.out | refine below_set ?_ GEL.out) | exact HB0.out)⟩⟩
  have hb16 : (fn == 16) = false := beq_eq_false_iff_ne.2 c16
  go_wp2_with (fail)
  go_meet
  case rel => exact ⟨x1, [], 0, 0, 0, none, 0, ⟨by unfold cand; rw [if_neg c5, if_neg c6, if_neg c22, if_neg c15, if_neg c23, if_neg c16, HX1.out]⟩, ⟨by (with_reducible repeat (first | refine blk_drewN ?_ _ | refine blk_drew ?_ | refine blk_alloc ?_ _)); refine blk_far ?_ NB24.out _; (with_reducible repeat (first | refine blk_drewN ?_ _ | refine blk_drew ?_ | refine blk_alloc ?_ _)); refine blk_far ?_ NB24.out _; (with_reducible repeat (first | refine blk_drewN ?_ _ | refine blk_drew ?_ | refine blk_alloc ?_ _)); exact BK2.out⟩, ⟨by (with_reducible repeat (first | refine blk_drewN ?_ _ | refine blk_drew ?_ | refine blk_alloc ?_ _)); refine blk_put (cs := #[.int .i64 fn, .int .i64 a1, .int .i64 0, .slice none 0 0, .int .i64 0, .int .i64 0, .int .i64 0]) ?_ 2 _ rfl; (with_reducible repeat (first | refine blk_drewN ?_ _ | refine blk_drew ?_ | refine blk_alloc ?_ _)); refine blk_put (cs := #[.int .i64 fn, .int .i64 0, .int .i64 0, .slice none 0 0, .int .i64 0, .int .i64 0, .int .i64 0]) ?_ 1 _ rfl; (with_reducible repeat (first | refine blk_drewN ?_ _ | refine blk_drew ?_ | refine blk_alloc ?_ _)); exact BK4.out⟩, ⟨by simp⟩, ⟨F_nil' _ _⟩, ⟨by repeat (first | (with_reducible first | exact HB0.out | apply below_alloc | apply pw_below_drewN | apply below_drew1 | refine below_set ?_ GE2.out | refine below_set ?_ GE4.out | refine below_set ?_ GEL.out) | exact HB0.out)⟩⟩
 case rest =>
  obtain ⟨a2, vs, a4, a5, a6, A, c, HCD, BK2', BK4', HVC, HV, HBn⟩ := hcut
  clear HB0 BK2 BK4 hcz5_0 hfz5_0 hcz5_1 hfz5_1 hcz5_2 hfz5_2 hcz5_3 hfz5_3 hcz5_4 hfz5_4 hcz5_5 hfz5_5 hcz5_6 hfz5_6 hcL0 hcL1 hfL1
  have HB0 := HBn
  have BK2 := BK2'
  have BK4 := BK4'
  clear HBn BK2' BK4'
  have hvl : vs.length ≤ 100000 := cand_len (by rw [HX1.out]; exact hx11) HL0.out HCD.out
  cases hm : mayB fn a1 a2 vs a4 a5 a6
  ·have HM := Aside0.mk hm
   have fB : Aside0 (pdu_Bytes.f KF fn a1 a2 vs a4 a5 a6 = some ([], 1)) := ⟨bytes_no KF fn a1 a2 vs a4 a5 a6 (by omega) (by have := HK.out; omega) hm⟩
   clear hm hvl
   refine cz7_ BK4.out ?_; intro hcz8_0 hcz8_1 hcz8_2 hcz8_3 hcz8_4 hcz8_5 hcz8_6 hfz8_0 hfz8_1 hfz8_2 hfz8_3 hfz8_4 hfz8_5 hfz8_6
   have hwc := NB24.out
   have hwd := NB42.out
   go_wp2_with (first | (go_at_call 30; refine (pdu_Bytes.calls KF fn a1 a2 A c vs a4 a5 a6 [] 1 _ (by (with_reducible repeat (first | refine Kd.C_alloc ?_ _ | refine Kd.C_drewN ?_ _ | refine Kd.C_drew ?_)); exact Kd.F_now HV.out) HVC.out fB.out).mono ?_; rintro e w8 ⟨vq, rfl, HRq, HBc⟩; have BK4n : Aside0 (w8.heap[gb4]? = some (.cells #[.int .i64 fn, .int .i64 a1, .int .i64 a2, .slice A vs.length c, .int .i64 a4, .int .i64 a5, .int .i64 a6] 24 (0, 0))) := Aside0.mk (blk_below (g := gb4) (bk_ BK4) HBc); have BK2n : Aside0 (w8.heap[gb2]? = some (.cells #[.int .i64 0, .int .i64 0, .int .i64 0, .slice none 0 0, .int .i64 0, .int .i64 0, .int .i64 0] 24 (0, 0))) := Aside0.mk (blk_below (g := gb2) (bk_ BK2) HBc); have HBn := Aside0.mk (below_step (by repeat (first | (with_reducible first | exact HB0.out | apply below_alloc | apply pw_below_drewN | apply below_drew1 | refine below_set ?_ GE2.out | refine below_set ?_ GE4.out | refine below_set ?_ GEL.out) | exact HB0.out)) HBc); have HVn := Aside0.mk (Kd.F_below (by exact HV.out) HBc); obtain ⟨Aq, cq, rfl⟩ := Kd.R_slice HRq; have HQ := Aside0.mk (Kd.R_reads' HRq).2.2; have HQC := Aside0.mk (Kd.R_reads' HRq).2.1; clear HB0 BK2 BK4 HV HRq HBc hcz8_0 hfz8_0 hcz8_1 hfz8_1 hcz8_2 hfz8_2 hcz8_3 hfz8_3 hcz8_4 hfz8_4 hcz8_5 hfz8_5 hcz8_6 hfz8_6; have HB0 := HBn; have BK2 := BK2n; have BK4 := BK4n; have HV := HVn; clear HBn BK2n BK4n HVn; refine cz7_ BK4.out ?_; intro hcz9_0 hcz9_1 hcz9_2 hcz9_3 hcz9_4 hcz9_5 hcz9_6 hfz9_0 hfz9_1 hfz9_2 hfz9_3 hfz9_4 hfz9_5 hfz9_6; refine cz7_ BK2.out ?_; intro hcz2_0 hcz2_1 hcz2_2 hcz2_3 hcz2_4 hcz2_5 hcz2_6 hfz2_0 hfz2_1 hfz2_2 hfz2_3 hfz2_4 hfz2_5 hfz2_6))
   refine bodyPost_ret (results_ct rfl _ _ gb2 24 #[.int .i64 0, .int .i64 0, .int .i64 0, .slice none 0 0, .int .i64 0, .int .i64 0, .int .i64 0] (0, 0) _ rfl (by (with_reducible repeat (first | refine blk_drewN ?_ _ | refine blk_drew ?_ | refine blk_alloc ?_ _)); refine blk_put (cs := #[.int .i64 0, .int .i64 0, .int .i64 0, .slice none 0 0, .int .i64 0, .int .i64 0, .int .i64 0]) ?_ 6 _ rfl; (with_reducible repeat (first | refine blk_drewN ?_ _ | refine blk_drew ?_ | refine blk_alloc ?_ _)); refine blk_put (cs := #[.int .i64 0, .int .i64 0, .int .i64 0, .slice none 0 0, .int .i64 0, .int .i64 0, .int .i64 0]) ?_ 5 _ rfl; (with_reducible repeat (first | refine blk_drewN ?_ _ | refine blk_drew ?_ | refine blk_alloc ?_ _)); refine blk_put (cs := #[.int .i64 0, .int .i64 0, .int .i64 0, .slice none 0 0, .int .i64 0, .int .i64 0, .int .i64 0]) ?_ 4 _ rfl; (with_reducible repeat (first | refine blk_drewN ?_ _ | refine blk_drew ?_ | refine blk_alloc ?_ _)); refine blk_put (cs := #[.int .i64 0, .int .i64 0, .int .i64 0, .slice none 0 0, .int .i64 0, .int .i64 0, .int .i64 0]) ?_ 3 _ rfl; (with_reducible repeat (first | refine blk_drewN ?_ _ | refine blk_drew ?_ | refine blk_alloc ?_ _)); refine blk_put (cs := #[.int .i64 0, .int .i64 0, .int .i64 0, .slice none 0 0, .int .i64 0, .int .i64 0, .int .i64 0]) ?_ 2 _ rfl; (with_reducible repeat (first | refine blk_drewN ?_ _ | refine blk_drew ?_ | refine blk_alloc ?_ _)); refine blk_put (cs := #[.int .i64 0, .int .i64 0, .int .i64 0, .slice none 0 0, .int .i64 0, .int .i64 0, .int .i64 0]) ?_ 1 _ rfl; (with_reducible repeat (first | refine blk_drewN ?_ _ | refine blk_drew ?_ | refine blk_alloc ?_ _)); refine blk_put (cs := #[.int .i64 0, .int .i64 0, .int .i64 0, .slice none 0 0, .int .i64 0, .int .i64 0, .int .i64 0]) ?_ 0 _ rfl; (with_reducible repeat (first | refine blk_drewN ?_ _ | refine blk_drew ?_ | refine blk_alloc ?_ _)); exact BK2.out) Try.underlying24 rfl (by kernel_rfl)) rfl ?_
   rw [parseG_no HCD.out (fun h => Bool.false_ne_true (HM.out.symm.trans h.1))]
   exact ⟨none, 0, rfl, Nat.le_refl _, Kd.C_nil _ _, by repeat (first | (with_reducible first | exact HB0.out | apply below_alloc | apply pw_below_drewN | apply below_drew1 | refine below_set ?_ GE2.out | refine below_set ?_ GE4.out | refine below_set ?_ GEL.out) | exact HB0.out)⟩
  ·have HM := Aside0.mk hm
   have fB' := bytes_yes KF fn a1 a2 vs a4 a5 a6 (by have := HK.out; omega) hm
   have hqb := reqB_bytes (may_is hm)
   obtain ⟨q, hq⟩ : ∃ q, reqB fn a1 a2 vs a4 a5 a6 = q := ⟨_, rfl⟩
   rw [hq] at fB' hqb
   have fB := Aside0.mk fB'
   have HQQ := Aside0.mk hq
   clear hm hvl hq fB'
   by_cases he : q = l0
   ·have HE : Aside0 (reqB fn a1 a2 vs a4 a5 a6 = l0) := ⟨HQQ.out.trans he⟩
    have fE : Aside0 (PR.bytes_Equal.f q l0 = some true) := ⟨by unfold PR.bytes_Equal.f; rw [str_beq hqb HBY.out, decide_eq_true he]⟩
    clear he hqb HQQ
    refine cz7_ BK4.out ?_; intro hcz8_0 hcz8_1 hcz8_2 hcz8_3 hcz8_4 hcz8_5 hcz8_6 hfz8_0 hfz8_1 hfz8_2 hfz8_3 hfz8_4 hfz8_5 hfz8_6
    have hwc := NB24.out
    have hwd := NB42.out
    go_wp2_with (first | (go_at_call 30; refine (pdu_Bytes.calls KF fn a1 a2 A c vs a4 a5 a6 q 0 _ (by (with_reducible repeat (first | refine Kd.C_alloc ?_ _ | refine Kd.C_drewN ?_ _ | refine Kd.C_drew ?_)); exact Kd.F_now HV.out) HVC.out fB.out).mono ?_; rintro e w8 ⟨vq, rfl, HRq, HBc⟩; have BK4n : Aside0 (w8.heap[gb4]? = some (.cells #[.int .i64 fn, .int .i64 a1, .int .i64 a2, .slice A vs.length c, .int .i64 a4, .int .i64 a5, .int .i64 a6] 24 (0, 0))) := Aside0.mk (blk_below (g := gb4) (bk_ BK4) HBc); have BK2n : Aside0 (w8.heap[gb2]? = some (.cells #[.int .i64 0, .int .i64 0, .int .i64 0, .slice none 0 0, .int .i64 0, .int .i64 0, .int .i64 0] 24 (0, 0))) := Aside0.mk (blk_below (g := gb2) (bk_ BK2) HBc); have HBn := Aside0.mk (below_step (by repeat (first | (with_reducible first | exact HB0.out | apply below_alloc | apply pw_below_drewN | apply below_drew1 | refine below_set ?_ GE2.out | refine below_set ?_ GE4.out | refine below_set ?_ GEL.out) | exact HB0.out)) HBc); have HVn := Aside0.mk (Kd.F_below (by exact HV.out) HBc); obtain ⟨Aq, cq, rfl⟩ := Kd.R_slice HRq; have HQ := Aside0.mk (Kd.R_reads' HRq).2.2; have HQC := Aside0.mk (Kd.R_reads' HRq).2.1; clear HB0 BK2 BK4 HV HRq HBc hcz8_0 hfz8_0 hcz8_1 hfz8_1 hcz8_2 hfz8_2 hcz8_3 hfz8_3 hcz8_4 hfz8_4 hcz8_5 hfz8_5 hcz8_6 hfz8_6; have HB0 := HBn; have BK2 := BK2n; have BK4 := BK4n; have HV := HVn; clear HBn BK2n BK4n HVn; refine cz7_ BK4.out ?_; intro hcz9_0 hcz9_1 hcz9_2 hcz9_3 hcz9_4 hcz9_5 hcz9_6 hfz9_0 hfz9_1 hfz9_2 hfz9_3 hfz9_4 hfz9_5 hfz9_6; refine cz7_ BK2.out ?_; intro hcz2_0 hcz2_1 hcz2_2 hcz2_3 hcz2_4 hcz2_5 hcz2_6 hfz2_0 hfz2_1 hfz2_2 hfz2_3 hfz2_4 hfz2_5 hfz2_6) | (go_at_call 62; refine (PR.bytes_Equal.calls Aq cq q (some ad) c0 l0 true _ (by (with_reducible repeat (first | refine Kd.C_alloc ?_ _ | refine Kd.C_drewN ?_ _ | refine Kd.C_drew ?_)); exact HQ.out) HQC.out (Kd.C_below HR0.out (by repeat (first | (with_reducible first | exact HB0.out | apply below_alloc | apply pw_below_drewN | apply below_drew1 | refine below_set ?_ GE2.out | refine below_set ?_ GE4.out | refine below_set ?_ GEL.out) | exact HB0.out))) HC0.out fE.out).mono ?_; rintro e w' ⟨rfl, ⟨ne, rfl⟩⟩))
    refine bodyPost_ret (results_ct rfl _ _ gb2 24 #[.int .i64 fn, .int .i64 a1, .int .i64 a2, .slice A vs.length c, .int .i64 a4, .int .i64 a5, .int .i64 a6] (0, 0) _ rfl (by (with_reducible repeat (first | refine blk_drewN ?_ _ | refine blk_drew ?_ | refine blk_alloc ?_ _)); refine blk_put (cs := #[.int .i64 fn, .int .i64 a1, .int .i64 a2, .slice A vs.length c, .int .i64 a4, .int .i64 a5, .int .i64 0]) ?_ 6 _ rfl; (with_reducible repeat (first | refine blk_drewN ?_ _ | refine blk_drew ?_ | refine blk_alloc ?_ _)); refine blk_put (cs := #[.int .i64 fn, .int .i64 a1, .int .i64 a2, .slice A vs.length c, .int .i64 a4, .int .i64 0, .int .i64 0]) ?_ 5 _ rfl; (with_reducible repeat (first | refine blk_drewN ?_ _ | refine blk_drew ?_ | refine blk_alloc ?_ _)); refine blk_put (cs := #[.int .i64 fn, .int .i64 a1, .int .i64 a2, .slice A vs.length c, .int .i64 0, .int .i64 0, .int .i64 0]) ?_ 4 _ rfl; (with_reducible repeat (first | refine blk_drewN ?_ _ | refine blk_drew ?_ | refine blk_alloc ?_ _)); refine blk_put (cs := #[.int .i64 fn, .int .i64 a1, .int .i64 a2, .slice none 0 0, .int .i64 0, .int .i64 0, .int .i64 0]) ?_ 3 _ rfl; (with_reducible repeat (first | refine blk_drewN ?_ _ | refine blk_drew ?_ | refine blk_alloc ?_ _)); refine blk_put (cs := #[.int .i64 fn, .int .i64 a1, .int .i64 0, .slice none 0 0, .int .i64 0, .int .i64 0, .int .i64 0]) ?_ 2 _ rfl; (with_reducible repeat (first | refine blk_drewN ?_ _ | refine blk_drew ?_ | refine blk_alloc ?_ _)); refine blk_put (cs := #[.int .i64 fn, .int .i64 0, .int .i64 0, .slice none 0 0, .int .i64 0, .int .i64 0, .int .i64 0]) ?_ 1 _ rfl; (with_reducible repeat (first | refine blk_drewN ?_ _ | refine blk_drew ?_ | refine blk_alloc ?_ _)); refine blk_put (cs := #[.int .i64 0, .int .i64 0, .int .i64 0, .slice none 0 0, .int .i64 0, .int .i64 0, .int .i64 0]) ?_ 0 _ rfl; (with_reducible repeat (first | refine blk_drewN ?_ _ | refine blk_drew ?_ | refine blk_alloc ?_ _)); exact BK2.out) Try.underlying24 rfl (by kernel_rfl)) rfl ?_
    rw [parseG_yes HCD.out ⟨HM.out, HE.out⟩]
    exact ⟨A, c, rfl, HVC.out, by skip; exact Kd.F_now (by (with_reducible repeat (first | refine Kd.F_alloc ?_ _ | refine Kd.F_drewN ?_ _ | refine Kd.F_drew ?_ | refine Kd.F_far ?_ (fun k hk => hk) _)); exact HV.out), by repeat (first | (with_reducible first | exact HB0.out | apply below_alloc | apply pw_below_drewN | apply below_drew1 | refine below_set ?_ GE2.out | refine below_set ?_ GE4.out | refine below_set ?_ GEL.out) | exact HB0.out)⟩
   ·have HE : Aside0 (¬ reqB fn a1 a2 vs a4 a5 a6 = l0) := ⟨fun h => he (HQQ.out.symm.trans h)⟩
    have fE : Aside0 (PR.bytes_Equal.f q l0 = some false) := ⟨by unfold PR.bytes_Equal.f; rw [str_beq hqb HBY.out, decide_eq_false he]⟩
    clear he hqb HQQ
    refine cz7_ BK4.out ?_; intro hcz8_0 hcz8_1 hcz8_2 hcz8_3 hcz8_4 hcz8_5 hcz8_6 hfz8_0 hfz8_1 hfz8_2 hfz8_3 hfz8_4 hfz8_5 hfz8_6
    have hwc := NB24.out
    have hwd := NB42.out
    go_wp2_with (first | (go_at_call 30; refine (pdu_Bytes.calls KF fn a1 a2 A c vs a4 a5 a6 q 0 _ (by (with_reducible repeat (first | refine Kd.C_alloc ?_ _ | refine Kd.C_drewN ?_ _ | refine Kd.C_drew ?_)); exact Kd.F_now HV.out) HVC.out fB.out).mono ?_; rintro e w8 ⟨vq, rfl, HRq, HBc⟩; have BK4n : Aside0 (w8.heap[gb4]? = some (.cells #[.int .i64 fn, .int .i64 a1, .int .i64 a2, .slice A vs.length c, .int .i64 a4, .int .i64 a5, .int .i64 a6] 24 (0, 0))) := Aside0.mk (blk_below (g := gb4) (bk_ BK4) HBc); have BK2n : Aside0 (w8.heap[gb2]? = some (.cells #[.int .i64 0, .int .i64 0, .int .i64 0, .slice none 0 0, .int .i64 0, .int .i64 0, .int .i64 0] 24 (0, 0))) := Aside0.mk (blk_below (g := gb2) (bk_ BK2) HBc); have HBn := Aside0.mk (below_step (by repeat (first | (with_reducible first | exact HB0.out | apply below_alloc | apply pw_below_drewN | apply below_drew1 | refine below_set ?_ GE2.out | refine below_set ?_ GE4.out | refine below_set ?_ GEL.out) | exact HB0.out)) HBc); have HVn := Aside0.mk (Kd.F_below (by exact HV.out) HBc); obtain ⟨Aq, cq, rfl⟩ := Kd.R_slice HRq; have HQ := Aside0.mk (Kd.R_reads' HRq).2.2; have HQC := Aside0.mk (Kd.R_reads' HRq).2.1; clear HB0 BK2 BK4 HV HRq HBc hcz8_0 hfz8_0 hcz8_1 hfz8_1 hcz8_2 hfz8_2 hcz8_3 hfz8_3 hcz8_4 hfz8_4 hcz8_5 hfz8_5 hcz8_6 hfz8_6; have HB0 := HBn; have BK2 := BK2n; have BK4 := BK4n; have HV := HVn; clear HBn BK2n BK4n HVn; refine cz7_ BK4.out ?_; intro hcz9_0 hcz9_1 hcz9_2 hcz9_3 hcz9_4 hcz9_5 hcz9_6 hfz9_0 hfz9_1 hfz9_2 hfz9_3 hfz9_4 hfz9_5 hfz9_6; refine cz7_ BK2.out ?_; intro hcz2_0 hcz2_1 hcz2_2 hcz2_3 hcz2_4 hcz2_5 hcz2_6 hfz2_0 hfz2_1 hfz2_2 hfz2_3 hfz2_4 hfz2_5 hfz2_6) | (go_at_call 62; refine (PR.bytes_Equal.calls Aq cq q (some ad) c0 l0 false _ (by (with_reducible repeat (first | refine Kd.C_alloc ?_ _ | refine Kd.C_drewN ?_ _ | refine Kd.C_drew ?_)); exact HQ.out) HQC.out (Kd.C_below HR0.out (by repeat (first | (with_reducible first | exact HB0.out | apply below_alloc | apply pw_below_drewN | apply below_drew1 | refine below_set ?_ GE2.out | refine below_set ?_ GE4.out | refine below_set ?_ GEL.out) | exact HB0.out))) HC0.out fE.out).mono ?_; rintro e w' ⟨rfl, ⟨ne, rfl⟩⟩))
    refine bodyPost_ret (results_ct rfl _ _ gb2 24 #[.int .i64 0, .int .i64 0, .int .i64 0, .slice none 0 0, .int .i64 0, .int .i64 0, .int .i64 0] (0, 0) _ rfl (by (with_reducible repeat (first | refine blk_drewN ?_ _ | refine blk_drew ?_ | refine blk_alloc ?_ _)); refine blk_put (cs := #[.int .i64 0, .int .i64 0, .int .i64 0, .slice none 0 0, .int .i64 0, .int .i64 0, .int .i64 0]) ?_ 6 _ rfl; (with_reducible repeat (first | refine blk_drewN ?_ _ | refine blk_drew ?_ | refine blk_alloc ?_ _)); refine blk_put (cs := #[.int .i64 0, .int .i64 0, .int .i64 0, .slice none 0 0, .int .i64 0, .int .i64 0, .int .i64 0]) ?_ 5 _ rfl; (with_reducible repeat (first | refine blk_drewN ?_ _ | refine blk_drew ?_ | refine blk_alloc ?_ _)); refine blk_put (cs := #[.int .i64 0, .int .i64 0, .int .i64 0, .slice none 0 0, .int .i64 0, .int .i64 0, .int .i64 0]) ?_ 4 _ rfl; (with_reducible repeat (first | refine blk_drewN ?_ _ | refine blk_drew ?_ | refine blk_alloc ?_ _)); refine blk_put (cs := #[.int .i64 0, .int .i64 0, .int .i64 0, .slice none 0 0, .int .i64 0, .int .i64 0, .int .i64 0]) ?_ 3 _ rfl; (with_reducible repeat (first | refine blk_drewN ?_ _ | refine blk_drew ?_ | refine blk_alloc ?_ _)); refine blk_put (cs := #[.int .i64 0, .int .i64 0, .int .i64 0, .slice none 0 0, .int .i64 0, .int .i64 0, .int .i64 0]) ?_ 2 _ rfl; (with_reducible repeat (first | refine blk_drewN ?_ _ | refine blk_drew ?_ | refine blk_alloc ?_ _)); refine blk_put (cs := #[.int .i64 0, .int .i64 0, .int .i64 0, .slice none 0 0, .int .i64 0, .int .i64 0, .int .i64 0]) ?_ 1 _ rfl; (with_reducible repeat (first | refine blk_drewN ?_ _ | refine blk_drew ?_ | refine blk_alloc ?_ _)); refine blk_put (cs := #[.int .i64 0, .int .i64 0, .int .i64 0, .slice none 0 0, .int .i64 0, .int .i64 0, .int .i64 0]) ?_ 0 _ rfl; (with_reducible repeat (first | refine blk_drewN ?_ _ | refine blk_drew ?_ | refine blk_alloc ?_ _)); exact BK2.out) Try.underlying24 rfl (by kernel_rfl)) rfl ?_
    rw [parseG_no HCD.out (fun h => HE.out h.2)]
    exact ⟨none, 0, rfl, Nat.le_refl _, Kd.C_nil _ _, by repeat (first | (with_reducible first | exact HB0.out | apply below_alloc | apply pw_below_drewN | apply below_drew1 | refine below_set ?_ GE2.out | refine below_set ?_ GE4.out | refine below_set ?_ GEL.out) | exact HB0.out)⟩
end Go.Proofs.Ytocicifgglkaeaa.ExtP
end

section
namespace Go.Proofs.Ytocicifgglkaeaa.ExtQ
open Go.RowKit Go.Proofs.YtocicifgglkaeaaW.PrintWords Go.Proofs.YtocicifgglkaeaaW.PrintLast Go.Proofs.YtocicifgglkaeaaW.PrintMore Go.Proofs.Ytocicifgglkaeaa.ExtF Go.Proofs.Ytocicifgglkaeaa.ExtP Go.Proofs.Ytocicifgglkaeaa.PP Go.Proofs.Ytocicifgglkaeaa.PQ Go.Proofs.Ytocicifgglkaeaa.ExtM Go.Proofs.Ytocicifgglkaeaa.MathP Go.Proofs.Ytocicifgglkaeaa.Mth
set_option linter.unusedVariables false
set_option linter.unusedSimpArgs false
def pdu_Parse.f (b : List Int) : Option (Int × Int × Int × List Int × Int × Int × Int × Int) :=
 if Bytes b ∧ b.length ≤ 100000 then some (if b.length < 5 then (0, 0, 0, [], 0, 0, 0, 4) else parseG (rd b 0) (rd (wordsOf (b.drop 1)) 0) b (wordsOf (b.drop 1))) else none
set_option maxHeartbeats 8000000 in
set_option maxRecDepth 100000 in
theorem parse_short (A0 : Option Addr) (c0 : Nat) (l0 : List Int) (w : World) (h5 : l0.length < 5) : Calls Try.prog 34 #[.slice A0 l0.length c0] w (ParseOf w (0, 0, 0, [], 0, 0, 0, 4)) := by
 have hu24 := Try.underlying24
 have h5b : decide ((l0.length : Int) < 5) = true := decide_eq_true (by omega)
 have HB0 := Aside0.mk (Below.refl w.heap.size w)
 clear h5
 go_enter Try.func34, Try.ntmps34
 go_wp2_with (first | ((with_reducible refine gate_dst (N := 2) rfl ?_); refine bx_ (N := 2) (cs := #[.int .i64 0, .int .i64 0, .int .i64 0, .slice none 0 0, .int .i64 0, .int .i64 0, .int .i64 0]) (t := 24) ?_; intro gb2 hg w3 hbox HBc; have GE0_gb2 : Aside0 (w.heap.size ≤ gb2) := Aside0.mk (by rw [hg]; exact (below_size (bl0_ HB0))); clear hg; have HB0n := Aside0.mk (below_step (by repeat (first | (with_reducible first | exact HB0.out | apply below_alloc | apply pw_below_drewN | apply below_drew1 | refine below_set ?_ GE0_gb2.out) | exact HB0.out)) HBc); clear HBc HB0; have HB0 := HB0n; clear HB0n; have BK_gb2 := Aside0.mk hbox; clear hbox; refine cz7_ BK_gb2.out ?_; intro hczq1_0 hczq1_1 hczq1_2 hczq1_3 hczq1_4 hczq1_5 hczq1_6 hfzq1_0 hfzq1_1 hfzq1_2 hfzq1_3 hfzq1_4 hfzq1_5 hfzq1_6))
 refine bodyPost_ret (results_ct rfl _ _ gb2 24 #[.int .i64 0, .int .i64 0, .int .i64 0, .slice none 0 0, .int .i64 0, .int .i64 0, .int .i64 0] (0, 0) _ rfl (by (with_reducible repeat (first | refine blk_drewN ?_ _ | refine blk_drew ?_ | refine blk_alloc ?_ _)); refine blk_put (cs := #[.int .i64 0, .int .i64 0, .int .i64 0, .slice none 0 0, .int .i64 0, .int .i64 0, .int .i64 0]) ?_ 6 _ rfl; (with_reducible repeat (first | refine blk_drewN ?_ _ | refine blk_drew ?_ | refine blk_alloc ?_ _)); refine blk_put (cs := #[.int .i64 0, .int .i64 0, .int .i64 0, .slice none 0 0, .int .i64 0, .int .i64 0, .int .i64 0]) ?_ 5 _ rfl; (with_reducible repeat (first | refine blk_drewN ?_ _ | refine blk_drew ?_ | refine blk_alloc ?_ _)); refine blk_put (cs := #[.int .i64 0, .int .i64 0, .int .i64 0, .slice none 0 0, .int .i64 0, .int .i64 0, .int .i64 0]) ?_ 4 _ rfl; (with_reducible repeat (first | refine blk_drewN ?_ _ | refine blk_drew ?_ | refine blk_alloc ?_ _)); refine blk_put (cs := #[.int .i64 0, .int .i64 0, .int .i64 0, .slice none 0 0, .int .i64 0, .int .i64 0, .int .i64 0]) ?_ 3 _ rfl; (with_reducible repeat (first | refine blk_drewN ?_ _ | refine blk_drew ?_ | refine blk_alloc ?_ _)); refine blk_put (cs := #[.int .i64 0, .int .i64 0, .int .i64 0, .slice none 0 0, .int .i64 0, .int .i64 0, .int .i64 0]) ?_ 2 _ rfl; (with_reducible repeat (first | refine blk_drewN ?_ _ | refine blk_drew ?_ | refine blk_alloc ?_ _)); refine blk_put (cs := #[.int .i64 0, .int .i64 0, .int .i64 0, .slice none 0 0, .int .i64 0, .int .i64 0, .int .i64 0]) ?_ 1 _ rfl; (with_reducible repeat (first | refine blk_drewN ?_ _ | refine blk_drew ?_ | refine blk_alloc ?_ _)); refine blk_put (cs := #[.int .i64 0, .int .i64 0, .int .i64 0, .slice none 0 0, .int .i64 0, .int .i64 0, .int .i64 0]) ?_ 0 _ rfl; (with_reducible repeat (first | refine blk_drewN ?_ _ | refine blk_drew ?_ | refine blk_alloc ?_ _)); exact BK_gb2.out) Try.underlying24 rfl (by kernel_rfl)) rfl ?_
 exact ⟨none, 0, rfl, Nat.le_refl _, Kd.C_nil _ _, (by repeat (first | (with_reducible first | exact HB0.out | apply below_alloc | apply pw_below_drewN | apply below_drew1 | refine below_set ?_ GE0_gb2.out) | exact HB0.out))⟩
theorem words_hd (l : List Int) (hb : Bytes l) (h : 4 ≤ l.length) : 2 ≤ (wordsOf l).length ∧ 0 ≤ rd (wordsOf l) 1 ∧ rd (wordsOf l) 1 ≤ 65535 := by
 have hl : 2 ≤ (wordsOf l).length := by rw [wordsOf_len]; omega
 have e : rd (wordsOf l) 1 = 256 * rd l ((2 : Nat) : Int) + rd l ((3 : Nat) : Int) := by
  have : rd (wordsOf l) ((1 : Nat) : Int) = (wordsOf l)[1] := rd_nat 1 (by omega)
  refine this.trans ?_
  simp [wordsOf]
 have h2 := bytes_rd hb ((2 : Nat) : Int)
 have h3 := bytes_rd hb ((3 : Nat) : Int)
 refine ⟨hl, ?_⟩
 rw [e]
 omega
theorem pdu_Parse.calls (A0 : Option Addr) (c0 : Nat) (l0 : List Int) (r1 r2 r3 : Int) (r4 : List Int) (r5 r6 r7 r8 : Int) (w : World) (hr0 : Kd.C (Kd.int .u8) w A0 l0.length l0) (hc0 : l0.length ≤ c0) (h : pdu_Parse.f l0 = some (r1, r2, r3, r4, r5, r6, r7, r8)) :
 Calls Try.prog 34 #[.slice A0 l0.length c0] w fun e w' => ∃ (A : Option Addr) (c : Nat), e = .returned (.tuple #[.agg #[.int .i64 r1, .int .i64 r2, .int .i64 r3, .slice A r4.length c, .int .i64 r5, .int .i64 r6, .int .i64 r7], .int .i64 r8]) ∧ r4.length ≤ c ∧ Kd.C (Kd.int .i64) w' A r4.length r4 ∧ Below w.heap.size w w' := by
 unfold pdu_Parse.f at h
 by_cases hc : Bytes l0 ∧ l0.length ≤ 100000
 ·rw [if_pos hc] at h
  have h := Option.some.inj h
  by_cases h5 : l0.length < 5
  ·rw [if_pos h5] at h
   have := parse_short A0 c0 l0 w h5
   rw [h] at this
   exact this
  ·rw [if_neg h5] at h
   have hd := bytes_drop hc.1 1
   have hw := words_hd (l0.drop 1) hd (by rw [List.length_drop]; omega)
   have hf := bytes_rd hc.1 0
   have := parse_walk (l0.length + 200000) A0 c0 l0 (wordsOf (l0.drop 1)) (rd l0 0) _ _ w hr0 hc0 (by omega) hc.2 hc.1 (by omega) rfl hf.1 hf.2 ⟨pwords_f _ hd (by rw [List.length_drop]; omega) _ (by rw [List.length_drop]; omega)⟩ hw.1 rfl rfl hw.2.1 hw.2.2
   rw [h] at this
   exact this
 ·rw [if_neg hc] at h
  cases h
theorem aw1 : Aside0 (pdu_Bytes.f 60 3 16 2 [] 0 0 0 = some ([3, 0, 16, 0, 2], 0)) := ⟨by decide +kernel⟩
theorem aw2 : Aside0 (PR.pdu_AnswerParse.f 60 3 16 2 [] 0 0 0 [3, 4, 0, 1, 0, 2] = some ([1, 2], 0, 0)) := ⟨by decide +kernel⟩
theorem aw3 : Aside0 (PR.pdu_AnswerParse.f 60 3 16 2 [] 0 0 0 [131, 2] = some ([], 2, 0)) := ⟨by decide +kernel⟩
theorem aw4 : Aside0 (pdu_Parse.f [5, 0, 1, 0, 1] = some (0, 0, 0, [], 0, 0, 0, 4)) := ⟨by kernel_rfl⟩
theorem aw5 : Aside0 (PR.basculeref01_Ints.f 60 [1, 2] [1, 2] = some true) := ⟨by decide +kernel⟩
theorem lit_C (W : World) (xs : List Int) (h : xs.length ≤ 9223372036854775807) : Kd.C (Kd.int .u8) (W.alloc (.cells (nums .u8 xs).toArray 5)) (some ⟨W.heap.size, 0, none⟩) xs.length xs := by
 have h := own_lit W 0 5 .u8 xs (by omega) h
 obtain ⟨A, c, e, hr⟩ := own_reads h
 injection e with e1 e2 e3
 subst e1
 exact Kd.C_of_reads (d := (0 : Int)) (h1 := fun _ => rfl) hr
theorem litI_C (W : World) (xs : List Int) (h : xs.length ≤ 9223372036854775807) : Kd.C (Kd.int .i64) (W.alloc (.cells (nums .i64 xs).toArray 3)) (some ⟨W.heap.size, 0, none⟩) xs.length xs := by
 have h := own_lit W 0 3 .i64 xs (by omega) h
 obtain ⟨A, c, e, hr⟩ := own_reads h
 injection e with e1 e2 e3
 subst e1
 exact Kd.C_of_reads (d := (0 : Int)) (h1 := fun _ => rfl) hr
theorem ne_new {W : World} {g g2 : Nat} {o : Obj} (h : W.heap[g]? = some o) (hg : g2 = W.heap.size) : g ≠ g2 := by
 have := blk_lt h
 omega
set_option maxHeartbeats 8000000 in
set_option maxRecDepth 100000 in
theorem awake_true (w : World) : Calls Try.prog 32 #[] w fun e w' => e = .returned (.bool true) ∧ Below w.heap.size w w' := by
 have hu24 := Try.underlying24
 have hu30 := Try.underlying30
 have HB0 := Aside0.mk (Below.refl w.heap.size w)
 go_enter Try.func32, Try.ntmps32
 go_upto_region 4 with (first | ((with_reducible refine gate_dst (N := 1) rfl ?_); refine bx_ (N := 1) (cs := #[.int .i64 0, .int .i64 0, .int .i64 0, .slice none 0 0, .int .i64 0, .int .i64 0, .int .i64 0]) (t := 24) ?_; intro gb1 hg w1 hbox HBc; have GE0_gb1 : Aside0 (w.heap.size ≤ gb1) := Aside0.mk (by rw [hg]; exact (below_size (bl0_ HB0))); clear hg; have HB0n := Aside0.mk (below_step (by repeat (first | (with_reducible first | exact HB0.out | apply below_alloc | apply pw_below_drewN | apply below_drew1 | refine below_set ?_ GE0_gb1.out) | exact HB0.out)) HBc); clear HBc HB0; have HB0 := HB0n; clear HB0n; have BK_gb1 := Aside0.mk hbox; clear hbox; refine cz7_ BK_gb1.out ?_; intro hczq1_0 hczq1_1 hczq1_2 hczq1_3 hczq1_4 hczq1_5 hczq1_6 hfzq1_0 hfzq1_1 hfzq1_2 hfzq1_3 hfzq1_4 hfzq1_5 hfzq1_6) | (go_at_call 30; refine (pdu_Bytes.calls 60 3 16 2 none 0 [] 0 0 0 [3, 0, 16, 0, 2] 0 _ (Kd.C_nil _ _) (Nat.le_refl _) aw1.out).mono ?_; rintro e w2 ⟨v, rfl, HR_b, HBc⟩; have BKn_gb1 : Aside0 (w2.heap[gb1]? = some (.cells #[.int .i64 3, .int .i64 16, .int .i64 2, .slice none 0 0, .int .i64 0, .int .i64 0, .int .i64 0] 24 (0, 0))) := Aside0.mk (blk_below (g := gb1) (by (with_reducible repeat (first | refine blk_drewN ?_ _ | refine blk_drew ?_ | refine blk_alloc ?_ _)); refine blk_put (cs := #[.int .i64 3, .int .i64 16, .int .i64 2, .slice none 0 0, .int .i64 0, .int .i64 0, .int .i64 0]) ?_ 6 _ rfl; (with_reducible repeat (first | refine blk_drewN ?_ _ | refine blk_drew ?_ | refine blk_alloc ?_ _)); refine blk_put (cs := #[.int .i64 3, .int .i64 16, .int .i64 2, .slice none 0 0, .int .i64 0, .int .i64 0, .int .i64 0]) ?_ 5 _ rfl; (with_reducible repeat (first | refine blk_drewN ?_ _ | refine blk_drew ?_ | refine blk_alloc ?_ _)); refine blk_put (cs := #[.int .i64 3, .int .i64 16, .int .i64 2, .slice none 0 0, .int .i64 0, .int .i64 0, .int .i64 0]) ?_ 4 _ rfl; (with_reducible repeat (first | refine blk_drewN ?_ _ | refine blk_drew ?_ | refine blk_alloc ?_ _)); refine blk_put (cs := #[.int .i64 3, .int .i64 16, .int .i64 2, .slice none 0 0, .int .i64 0, .int .i64 0, .int .i64 0]) ?_ 3 _ rfl; (with_reducible repeat (first | refine blk_drewN ?_ _ | refine blk_drew ?_ | refine blk_alloc ?_ _)); refine blk_put (cs := #[.int .i64 3, .int .i64 16, .int .i64 0, .slice none 0 0, .int .i64 0, .int .i64 0, .int .i64 0]) ?_ 2 _ rfl; (with_reducible repeat (first | refine blk_drewN ?_ _ | refine blk_drew ?_ | refine blk_alloc ?_ _)); refine blk_put (cs := #[.int .i64 3, .int .i64 0, .int .i64 0, .slice none 0 0, .int .i64 0, .int .i64 0, .int .i64 0]) ?_ 1 _ rfl; (with_reducible repeat (first | refine blk_drewN ?_ _ | refine blk_drew ?_ | refine blk_alloc ?_ _)); refine blk_put (cs := #[.int .i64 0, .int .i64 0, .int .i64 0, .slice none 0 0, .int .i64 0, .int .i64 0, .int .i64 0]) ?_ 0 _ rfl; (with_reducible repeat (first | refine blk_drewN ?_ _ | refine blk_drew ?_ | refine blk_alloc ?_ _)); exact BK_gb1.out) HBc); have HB0n := Aside0.mk (below_step (by repeat (first | (with_reducible first | exact HB0.out | apply below_alloc | apply pw_below_drewN | apply below_drew1 | refine below_set ?_ GE0_gb1.out) | exact HB0.out)) HBc); clear HBc BK_gb1 HB0 hczq1_0 hfzq1_0 hczq1_1 hfzq1_1 hczq1_2 hfzq1_2 hczq1_3 hfzq1_3 hczq1_4 hfzq1_4 hczq1_5 hfzq1_5 hczq1_6 hfzq1_6; have BK_gb1 := BKn_gb1; have HB0 := HB0n; clear BKn_gb1 HB0n; have HB_b := Aside0.mk (Below.refl w2.heap.size w2); obtain ⟨A_b, c_b, rfl⟩ := Kd.R_slice HR_b; have HV_b := Aside0.mk (Kd.R_reads' HR_b).2.2; have HC_b := Aside0.mk (Kd.R_reads' HR_b).2.1; clear HR_b; refine cz7_ BK_gb1.out ?_; intro hczq2_0 hczq2_1 hczq2_2 hczq2_3 hczq2_4 hczq2_5 hczq2_6 hfzq2_0 hfzq2_1 hfzq2_2 hfzq2_3 hfzq2_4 hfzq2_5 hfzq2_6) | (go_at_call 39; refine (PR.pdu_AnswerParse.calls 60 3 16 2 none 0 [] 0 0 0 (some _) 6 [3, 4, 0, 1, 0, 2] [1, 2] 0 0 _ (Kd.C_nil _ _) (Nat.le_refl _) (lit_C _ [3, 4, 0, 1, 0, 2] (by decide)) (Nat.le_refl _) aw2.out).mono ?_; rintro e w3 ⟨v, rfl, HR_a, HBc⟩; have BKn_gb1 : Aside0 (w3.heap[gb1]? = some (.cells #[.int .i64 3, .int .i64 16, .int .i64 2, .slice none 0 0, .int .i64 0, .int .i64 0, .int .i64 0] 24 (0, 0))) := Aside0.mk (blk_below (g := gb1) (bk_ BK_gb1) HBc); have HB0n := Aside0.mk (below_step (by repeat (first | (with_reducible first | exact HB0.out | apply below_alloc | apply pw_below_drewN | apply below_drew1 | refine below_set ?_ GE0_gb1.out) | exact HB0.out)) HBc); have HB_bn := Aside0.mk (below_step (bl0_ HB_b) HBc); clear HBc BK_gb1 HB0 HB_b hczq2_0 hfzq2_0 hczq2_1 hfzq2_1 hczq2_2 hfzq2_2 hczq2_3 hfzq2_3 hczq2_4 hfzq2_4 hczq2_5 hfzq2_5 hczq2_6 hfzq2_6; have BK_gb1 := BKn_gb1; have HB0 := HB0n; have HB_b := HB_bn; clear BKn_gb1 HB0n HB_bn; have HB_a := Aside0.mk (Below.refl w3.heap.size w3); obtain ⟨A_a, c_a, rfl⟩ := Kd.R_slice HR_a; have HV_a := Aside0.mk (Kd.R_reads' HR_a).2.2; have HC_a := Aside0.mk (Kd.R_reads' HR_a).2.1; clear HR_a; refine cz7_ BK_gb1.out ?_; intro hczq3_0 hczq3_1 hczq3_2 hczq3_3 hczq3_4 hczq3_5 hczq3_6 hfzq3_0 hfzq3_1 hfzq3_2 hfzq3_3 hfzq3_4 hfzq3_5 hfzq3_6) | ((with_reducible refine gate_dst (N := 4) rfl ?_); refine bx_ (N := 4) (cs := #[.slice none 0 0, .int .i64 0]) (t := 30) ?_; intro gb4 hg w4 hbox HBc; have GE0_gb4 : Aside0 (w.heap.size ≤ gb4) := Aside0.mk (by rw [hg]; exact (below_size (by repeat (first | (with_reducible first | exact HB0.out | apply below_alloc | apply pw_below_drewN | apply below_drew1 | refine below_set ?_ GE0_gb1.out) | exact HB0.out)))); have GEb_gb4 : Aside0 (w2.heap.size ≤ gb4) := Aside0.mk (by rw [hg]; exact (below_size (bl0_ HB_b))); have GEa_gb4 : Aside0 (w3.heap.size ≤ gb4) := Aside0.mk (by rw [hg]; exact (below_size (bl0_ HB_a))); have NB_gb1_gb4 : Aside0 (gb1 ≠ gb4) := Aside0.mk (ne_new (bk_ BK_gb1) hg); have NB_gb4_gb1 : Aside0 (gb4 ≠ gb1) := Aside0.mk (fun e => NB_gb1_gb4.out e.symm); clear hg; have BKn_gb1 : Aside0 (w4.heap[gb1]? = some (.cells #[.int .i64 3, .int .i64 16, .int .i64 2, .slice none 0 0, .int .i64 0, .int .i64 0, .int .i64 0] 24 (0, 0))) := Aside0.mk (blk_below (g := gb1) (bk_ BK_gb1) HBc); have HB0n := Aside0.mk (below_step (by repeat (first | (with_reducible first | exact HB0.out | apply below_alloc | apply pw_below_drewN | apply below_drew1 | refine below_set ?_ GE0_gb1.out | refine below_set ?_ GE0_gb4.out) | exact HB0.out)) HBc); have HB_bn := Aside0.mk (below_step (by repeat (first | (with_reducible first | exact HB_b.out | apply below_alloc | apply pw_below_drewN | apply below_drew1 | refine below_set ?_ GEb_gb4.out) | exact HB_b.out)) HBc); have HB_an := Aside0.mk (below_step (by repeat (first | (with_reducible first | exact HB_a.out | apply below_alloc | apply pw_below_drewN | apply below_drew1 | refine below_set ?_ GEa_gb4.out) | exact HB_a.out)) HBc); clear HBc BK_gb1 HB0 HB_b HB_a hczq3_0 hfzq3_0 hczq3_1 hfzq3_1 hczq3_2 hfzq3_2 hczq3_3 hfzq3_3 hczq3_4 hfzq3_4 hczq3_5 hfzq3_5 hczq3_6 hfzq3_6; have BK_gb1 := BKn_gb1; have HB0 := HB0n; have HB_b := HB_bn; have HB_a := HB_an; clear BKn_gb1 HB0n HB_bn HB_an; have BK_gb4 := Aside0.mk hbox; clear hbox; refine cz7_ BK_gb1.out ?_; intro hczq4_0 hczq4_1 hczq4_2 hczq4_3 hczq4_4 hczq4_5 hczq4_6 hfzq4_0 hfzq4_1 hfzq4_2 hfzq4_3 hfzq4_4 hfzq4_5 hfzq4_6; refine cz2_ BK_gb4.out ?_; intro hczq5_0 hczq5_1 hfzq5_0 hfzq5_1; have hnq6 := NB_gb1_gb4.out; have hmq6 := NB_gb4_gb1.out))
 have BKn_gb1 : Aside0 (((w4.setCell ⟨gb4, 0, none⟩ (.slice A_a 2 c_a)).setCell ⟨gb4, 1, none⟩ (.int .i64 0)).heap[gb1]? = some (.cells #[.int .i64 3, .int .i64 16, .int .i64 2, .slice none 0 0, .int .i64 0, .int .i64 0, .int .i64 0] 24 (0, 0))) := Aside0.mk (by (with_reducible repeat (first | refine blk_drewN ?_ _ | refine blk_drew ?_ | refine blk_alloc ?_ _)); refine blk_far ?_ NB_gb1_gb4.out _; (with_reducible repeat (first | refine blk_drewN ?_ _ | refine blk_drew ?_ | refine blk_alloc ?_ _)); refine blk_far ?_ NB_gb1_gb4.out _; (with_reducible repeat (first | refine blk_drewN ?_ _ | refine blk_drew ?_ | refine blk_alloc ?_ _)); exact BK_gb1.out)
 have BKn_gb4 : Aside0 (((w4.setCell ⟨gb4, 0, none⟩ (.slice A_a 2 c_a)).setCell ⟨gb4, 1, none⟩ (.int .i64 0)).heap[gb4]? = some (.cells #[.slice A_a 2 c_a, .int .i64 0] 30 (0, 0))) := Aside0.mk (by (with_reducible repeat (first | refine blk_drewN ?_ _ | refine blk_drew ?_ | refine blk_alloc ?_ _)); refine blk_put (cs := #[.slice A_a 2 c_a, .int .i64 0]) ?_ 1 _ rfl; (with_reducible repeat (first | refine blk_drewN ?_ _ | refine blk_drew ?_ | refine blk_alloc ?_ _)); refine blk_put (cs := #[.slice none 0 0, .int .i64 0]) ?_ 0 _ rfl; (with_reducible repeat (first | refine blk_drewN ?_ _ | refine blk_drew ?_ | refine blk_alloc ?_ _)); exact BK_gb4.out)
 have HB0n : Aside0 (Below w.heap.size w ((w4.setCell ⟨gb4, 0, none⟩ (.slice A_a 2 c_a)).setCell ⟨gb4, 1, none⟩ (.int .i64 0))) := Aside0.mk (by repeat (first | (with_reducible first | exact HB0.out | apply below_alloc | apply pw_below_drewN | apply below_drew1 | refine below_set ?_ GE0_gb1.out | refine below_set ?_ GE0_gb4.out) | exact HB0.out))
 have HB_bn : Aside0 (Below w2.heap.size w2 ((w4.setCell ⟨gb4, 0, none⟩ (.slice A_a 2 c_a)).setCell ⟨gb4, 1, none⟩ (.int .i64 0))) := Aside0.mk (by repeat (first | (with_reducible first | exact HB_b.out | apply below_alloc | apply pw_below_drewN | apply below_drew1 | refine below_set ?_ GEb_gb4.out) | exact HB_b.out))
 have HB_an : Aside0 (Below w3.heap.size w3 ((w4.setCell ⟨gb4, 0, none⟩ (.slice A_a 2 c_a)).setCell ⟨gb4, 1, none⟩ (.int .i64 0))) := Aside0.mk (by repeat (first | (with_reducible first | exact HB_a.out | apply below_alloc | apply pw_below_drewN | apply below_drew1 | refine below_set ?_ GEa_gb4.out) | exact HB_a.out))
 clear BK_gb1 BK_gb4 HB0 HB_b HB_a hczq4_0 hfzq4_0 hczq4_1 hfzq4_1 hczq4_2 hfzq4_2 hczq4_3 hfzq4_3 hczq4_4 hfzq4_4 hczq4_5 hfzq4_5 hczq4_6 hfzq4_6 hczq5_0 hfzq5_0 hczq5_1 hfzq5_1 hnq6 hmq6
 have BK_gb1 := BKn_gb1
 have BK_gb4 := BKn_gb4
 have HB0 := HB0n
 have HB_b := HB_bn
 have HB_a := HB_an
 clear BKn_gb1 BKn_gb4 HB0n HB_bn HB_an
 generalize ((w4.setCell ⟨gb4, 0, none⟩ (.slice A_a 2 c_a)).setCell ⟨gb4, 1, none⟩ (.int .i64 0)) = w5 at BK_gb1 BK_gb4 HB0 HB_b HB_a ⊢
 refine cz7_ BK_gb1.out ?_; intro hczq7_0 hczq7_1 hczq7_2 hczq7_3 hczq7_4 hczq7_5 hczq7_6 hfzq7_0 hfzq7_1 hfzq7_2 hfzq7_3 hfzq7_4 hfzq7_5 hfzq7_6
 refine cz2_ BK_gb4.out ?_; intro hczq8_0 hczq8_1 hfzq8_0 hfzq8_1
 have hnq9 := NB_gb1_gb4.out; have hmq9 := NB_gb4_gb1.out
 go_upto_region 5 with (first | (go_at_call 39; refine (PR.pdu_AnswerParse.calls 60 3 16 2 none 0 [] 0 0 0 (some _) 2 [131, 2] [] 2 0 _ (Kd.C_nil _ _) (Nat.le_refl _) (lit_C _ [131, 2] (by decide)) (Nat.le_refl _) aw3.out).mono ?_; rintro e w6 ⟨v, rfl, HR_c, HBc⟩; have BKn_gb1 : Aside0 (w6.heap[gb1]? = some (.cells #[.int .i64 3, .int .i64 16, .int .i64 2, .slice none 0 0, .int .i64 0, .int .i64 0, .int .i64 0] 24 (0, 0))) := Aside0.mk (blk_below (g := gb1) (bk_ BK_gb1) HBc); have BKn_gb4 : Aside0 (w6.heap[gb4]? = some (.cells #[.slice A_a 2 c_a, .int .i64 0] 30 (0, 0))) := Aside0.mk (blk_below (g := gb4) (bk_ BK_gb4) HBc); have HB0n := Aside0.mk (below_step (by repeat (first | (with_reducible first | exact HB0.out | apply below_alloc | apply pw_below_drewN | apply below_drew1 | refine below_set ?_ GE0_gb1.out | refine below_set ?_ GE0_gb4.out) | exact HB0.out)) HBc); have HB_bn := Aside0.mk (below_step (by repeat (first | (with_reducible first | exact HB_b.out | apply below_alloc | apply pw_below_drewN | apply below_drew1 | refine below_set ?_ GEb_gb4.out) | exact HB_b.out)) HBc); have HB_an := Aside0.mk (below_step (by repeat (first | (with_reducible first | exact HB_a.out | apply below_alloc | apply pw_below_drewN | apply below_drew1 | refine below_set ?_ GEa_gb4.out) | exact HB_a.out)) HBc); clear HBc BK_gb1 BK_gb4 HB0 HB_b HB_a hczq7_0 hfzq7_0 hczq7_1 hfzq7_1 hczq7_2 hfzq7_2 hczq7_3 hfzq7_3 hczq7_4 hfzq7_4 hczq7_5 hfzq7_5 hczq7_6 hfzq7_6 hczq8_0 hfzq8_0 hczq8_1 hfzq8_1 hnq9 hmq9; have BK_gb1 := BKn_gb1; have BK_gb4 := BKn_gb4; have HB0 := HB0n; have HB_b := HB_bn; have HB_a := HB_an; clear BKn_gb1 BKn_gb4 HB0n HB_bn HB_an; have HB_c := Aside0.mk (Below.refl w6.heap.size w6); obtain ⟨A_c, c_c, rfl⟩ := Kd.R_slice HR_c; have HV_c := Aside0.mk (Kd.R_reads' HR_c).2.2; have HC_c := Aside0.mk (Kd.R_reads' HR_c).2.1; clear HR_c; refine cz7_ BK_gb1.out ?_; intro hczq10_0 hczq10_1 hczq10_2 hczq10_3 hczq10_4 hczq10_5 hczq10_6 hfzq10_0 hfzq10_1 hfzq10_2 hfzq10_3 hfzq10_4 hfzq10_5 hfzq10_6; refine cz2_ BK_gb4.out ?_; intro hczq11_0 hczq11_1 hfzq11_0 hfzq11_1; have hnq12 := NB_gb1_gb4.out; have hmq12 := NB_gb4_gb1.out) | ((with_reducible refine gate_dst (N := 6) rfl ?_); refine bx_ (N := 6) (cs := #[.slice none 0 0, .int .i64 0]) (t := 30) ?_; intro gb6 hg w7 hbox HBc; have GE0_gb6 : Aside0 (w.heap.size ≤ gb6) := Aside0.mk (by rw [hg]; exact (below_size (by repeat (first | (with_reducible first | exact HB0.out | apply below_alloc | apply pw_below_drewN | apply below_drew1 | refine below_set ?_ GE0_gb1.out | refine below_set ?_ GE0_gb4.out) | exact HB0.out)))); have GEb_gb6 : Aside0 (w2.heap.size ≤ gb6) := Aside0.mk (by rw [hg]; exact (below_size (by repeat (first | (with_reducible first | exact HB_b.out | apply below_alloc | apply pw_below_drewN | apply below_drew1 | refine below_set ?_ GEb_gb4.out) | exact HB_b.out)))); have GEa_gb6 : Aside0 (w3.heap.size ≤ gb6) := Aside0.mk (by rw [hg]; exact (below_size (by repeat (first | (with_reducible first | exact HB_a.out | apply below_alloc | apply pw_below_drewN | apply below_drew1 | refine below_set ?_ GEa_gb4.out) | exact HB_a.out)))); have GEc_gb6 : Aside0 (w6.heap.size ≤ gb6) := Aside0.mk (by rw [hg]; exact (below_size (bl0_ HB_c))); have NB_gb1_gb6 : Aside0 (gb1 ≠ gb6) := Aside0.mk (ne_new (bk_ BK_gb1) hg); have NB_gb6_gb1 : Aside0 (gb6 ≠ gb1) := Aside0.mk (fun e => NB_gb1_gb6.out e.symm); have NB_gb4_gb6 : Aside0 (gb4 ≠ gb6) := Aside0.mk (ne_new (bk_ BK_gb4) hg); have NB_gb6_gb4 : Aside0 (gb6 ≠ gb4) := Aside0.mk (fun e => NB_gb4_gb6.out e.symm); clear hg; have BKn_gb1 : Aside0 (w7.heap[gb1]? = some (.cells #[.int .i64 3, .int .i64 16, .int .i64 2, .slice none 0 0, .int .i64 0, .int .i64 0, .int .i64 0] 24 (0, 0))) := Aside0.mk (blk_below (g := gb1) (bk_ BK_gb1) HBc); have BKn_gb4 : Aside0 (w7.heap[gb4]? = some (.cells #[.slice A_a 2 c_a, .int .i64 0] 30 (0, 0))) := Aside0.mk (blk_below (g := gb4) (bk_ BK_gb4) HBc); have HB0n := Aside0.mk (below_step (by repeat (first | (with_reducible first | exact HB0.out | apply below_alloc | apply pw_below_drewN | apply below_drew1 | refine below_set ?_ GE0_gb1.out | refine below_set ?_ GE0_gb4.out | refine below_set ?_ GE0_gb6.out) | exact HB0.out)) HBc); have HB_bn := Aside0.mk (below_step (by repeat (first | (with_reducible first | exact HB_b.out | apply below_alloc | apply pw_below_drewN | apply below_drew1 | refine below_set ?_ GEb_gb4.out | refine below_set ?_ GEb_gb6.out) | exact HB_b.out)) HBc); have HB_an := Aside0.mk (below_step (by repeat (first | (with_reducible first | exact HB_a.out | apply below_alloc | apply pw_below_drewN | apply below_drew1 | refine below_set ?_ GEa_gb4.out | refine below_set ?_ GEa_gb6.out) | exact HB_a.out)) HBc); have HB_cn := Aside0.mk (below_step (by repeat (first | (with_reducible first | exact HB_c.out | apply below_alloc | apply pw_below_drewN | apply below_drew1 | refine below_set ?_ GEc_gb6.out) | exact HB_c.out)) HBc); clear HBc BK_gb1 BK_gb4 HB0 HB_b HB_a HB_c hczq10_0 hfzq10_0 hczq10_1 hfzq10_1 hczq10_2 hfzq10_2 hczq10_3 hfzq10_3 hczq10_4 hfzq10_4 hczq10_5 hfzq10_5 hczq10_6 hfzq10_6 hczq11_0 hfzq11_0 hczq11_1 hfzq11_1 hnq12 hmq12; have BK_gb1 := BKn_gb1; have BK_gb4 := BKn_gb4; have HB0 := HB0n; have HB_b := HB_bn; have HB_a := HB_an; have HB_c := HB_cn; clear BKn_gb1 BKn_gb4 HB0n HB_bn HB_an HB_cn; have BK_gb6 := Aside0.mk hbox; clear hbox; refine cz7_ BK_gb1.out ?_; intro hczq13_0 hczq13_1 hczq13_2 hczq13_3 hczq13_4 hczq13_5 hczq13_6 hfzq13_0 hfzq13_1 hfzq13_2 hfzq13_3 hfzq13_4 hfzq13_5 hfzq13_6; refine cz2_ BK_gb4.out ?_; intro hczq14_0 hczq14_1 hfzq14_0 hfzq14_1; refine cz2_ BK_gb6.out ?_; intro hczq15_0 hczq15_1 hfzq15_0 hfzq15_1; have hnq16 := NB_gb1_gb4.out; have hmq16 := NB_gb4_gb1.out; have hnq17 := NB_gb1_gb6.out; have hmq17 := NB_gb6_gb1.out; have hnq18 := NB_gb4_gb6.out; have hmq18 := NB_gb6_gb4.out))
 have BKn_gb1 : Aside0 (((w7.setCell ⟨gb6, 0, none⟩ (.slice A_c 0 c_c)).setCell ⟨gb6, 1, none⟩ (.int .i64 2)).heap[gb1]? = some (.cells #[.int .i64 3, .int .i64 16, .int .i64 2, .slice none 0 0, .int .i64 0, .int .i64 0, .int .i64 0] 24 (0, 0))) := Aside0.mk (by (with_reducible repeat (first | refine blk_drewN ?_ _ | refine blk_drew ?_ | refine blk_alloc ?_ _)); refine blk_far ?_ NB_gb1_gb6.out _; (with_reducible repeat (first | refine blk_drewN ?_ _ | refine blk_drew ?_ | refine blk_alloc ?_ _)); refine blk_far ?_ NB_gb1_gb6.out _; (with_reducible repeat (first | refine blk_drewN ?_ _ | refine blk_drew ?_ | refine blk_alloc ?_ _)); exact BK_gb1.out)
 have BKn_gb4 : Aside0 (((w7.setCell ⟨gb6, 0, none⟩ (.slice A_c 0 c_c)).setCell ⟨gb6, 1, none⟩ (.int .i64 2)).heap[gb4]? = some (.cells #[.slice A_a 2 c_a, .int .i64 0] 30 (0, 0))) := Aside0.mk (by (with_reducible repeat (first | refine blk_drewN ?_ _ | refine blk_drew ?_ | refine blk_alloc ?_ _)); refine blk_far ?_ NB_gb4_gb6.out _; (with_reducible repeat (first | refine blk_drewN ?_ _ | refine blk_drew ?_ | refine blk_alloc ?_ _)); refine blk_far ?_ NB_gb4_gb6.out _; (with_reducible repeat (first | refine blk_drewN ?_ _ | refine blk_drew ?_ | refine blk_alloc ?_ _)); exact BK_gb4.out)
 have BKn_gb6 : Aside0 (((w7.setCell ⟨gb6, 0, none⟩ (.slice A_c 0 c_c)).setCell ⟨gb6, 1, none⟩ (.int .i64 2)).heap[gb6]? = some (.cells #[.slice A_c 0 c_c, .int .i64 2] 30 (0, 0))) := Aside0.mk (by (with_reducible repeat (first | refine blk_drewN ?_ _ | refine blk_drew ?_ | refine blk_alloc ?_ _)); refine blk_put (cs := #[.slice A_c 0 c_c, .int .i64 0]) ?_ 1 _ rfl; (with_reducible repeat (first | refine blk_drewN ?_ _ | refine blk_drew ?_ | refine blk_alloc ?_ _)); refine blk_put (cs := #[.slice none 0 0, .int .i64 0]) ?_ 0 _ rfl; (with_reducible repeat (first | refine blk_drewN ?_ _ | refine blk_drew ?_ | refine blk_alloc ?_ _)); exact BK_gb6.out)
 have HB0n : Aside0 (Below w.heap.size w ((w7.setCell ⟨gb6, 0, none⟩ (.slice A_c 0 c_c)).setCell ⟨gb6, 1, none⟩ (.int .i64 2))) := Aside0.mk (by repeat (first | (with_reducible first | exact HB0.out | apply below_alloc | apply pw_below_drewN | apply below_drew1 | refine below_set ?_ GE0_gb1.out | refine below_set ?_ GE0_gb4.out | refine below_set ?_ GE0_gb6.out) | exact HB0.out))
 have HB_bn : Aside0 (Below w2.heap.size w2 ((w7.setCell ⟨gb6, 0, none⟩ (.slice A_c 0 c_c)).setCell ⟨gb6, 1, none⟩ (.int .i64 2))) := Aside0.mk (by repeat (first | (with_reducible first | exact HB_b.out | apply below_alloc | apply pw_below_drewN | apply below_drew1 | refine below_set ?_ GEb_gb4.out | refine below_set ?_ GEb_gb6.out) | exact HB_b.out))
 have HB_an : Aside0 (Below w3.heap.size w3 ((w7.setCell ⟨gb6, 0, none⟩ (.slice A_c 0 c_c)).setCell ⟨gb6, 1, none⟩ (.int .i64 2))) := Aside0.mk (by repeat (first | (with_reducible first | exact HB_a.out | apply below_alloc | apply pw_below_drewN | apply below_drew1 | refine below_set ?_ GEa_gb4.out | refine below_set ?_ GEa_gb6.out) | exact HB_a.out))
 have HB_cn : Aside0 (Below w6.heap.size w6 ((w7.setCell ⟨gb6, 0, none⟩ (.slice A_c 0 c_c)).setCell ⟨gb6, 1, none⟩ (.int .i64 2))) := Aside0.mk (by repeat (first | (with_reducible first | exact HB_c.out | apply below_alloc | apply pw_below_drewN | apply below_drew1 | refine below_set ?_ GEc_gb6.out) | exact HB_c.out))
 clear BK_gb1 BK_gb4 BK_gb6 HB0 HB_b HB_a HB_c hczq13_0 hfzq13_0 hczq13_1 hfzq13_1 hczq13_2 hfzq13_2 hczq13_3 hfzq13_3 hczq13_4 hfzq13_4 hczq13_5 hfzq13_5 hczq13_6 hfzq13_6 hczq14_0 hfzq14_0 hczq14_1 hfzq14_1 hczq15_0 hfzq15_0 hczq15_1 hfzq15_1 hnq16 hmq16 hnq17 hmq17 hnq18 hmq18
 have BK_gb1 := BKn_gb1
 have BK_gb4 := BKn_gb4
 have BK_gb6 := BKn_gb6
 have HB0 := HB0n
 have HB_b := HB_bn
 have HB_a := HB_an
 have HB_c := HB_cn
 clear BKn_gb1 BKn_gb4 BKn_gb6 HB0n HB_bn HB_an HB_cn
 generalize ((w7.setCell ⟨gb6, 0, none⟩ (.slice A_c 0 c_c)).setCell ⟨gb6, 1, none⟩ (.int .i64 2)) = w8 at BK_gb1 BK_gb4 BK_gb6 HB0 HB_b HB_a HB_c ⊢
 refine cz7_ BK_gb1.out ?_; intro hczq19_0 hczq19_1 hczq19_2 hczq19_3 hczq19_4 hczq19_5 hczq19_6 hfzq19_0 hfzq19_1 hfzq19_2 hfzq19_3 hfzq19_4 hfzq19_5 hfzq19_6
 refine cz2_ BK_gb4.out ?_; intro hczq20_0 hczq20_1 hfzq20_0 hfzq20_1
 refine cz2_ BK_gb6.out ?_; intro hczq21_0 hczq21_1 hfzq21_0 hfzq21_1
 have hnq22 := NB_gb1_gb4.out; have hmq22 := NB_gb4_gb1.out
 have hnq23 := NB_gb1_gb6.out; have hmq23 := NB_gb6_gb1.out
 have hnq24 := NB_gb4_gb6.out; have hmq24 := NB_gb6_gb4.out
 go_upto_region 6 with (first | (go_at_call 34; refine (pdu_Parse.calls (some _) 5 [5, 0, 1, 0, 1] 0 0 0 [] 0 0 0 4 _ (lit_C _ [5, 0, 1, 0, 1] (by decide)) (Nat.le_refl _) aw4.out).mono ?_; rintro e w9 ⟨A_d, c_d, rfl, HC0_d, HV0_d, HBc⟩; have BKn_gb1 : Aside0 (w9.heap[gb1]? = some (.cells #[.int .i64 3, .int .i64 16, .int .i64 2, .slice none 0 0, .int .i64 0, .int .i64 0, .int .i64 0] 24 (0, 0))) := Aside0.mk (blk_below (g := gb1) (bk_ BK_gb1) HBc); have BKn_gb4 : Aside0 (w9.heap[gb4]? = some (.cells #[.slice A_a 2 c_a, .int .i64 0] 30 (0, 0))) := Aside0.mk (blk_below (g := gb4) (bk_ BK_gb4) HBc); have BKn_gb6 : Aside0 (w9.heap[gb6]? = some (.cells #[.slice A_c 0 c_c, .int .i64 2] 30 (0, 0))) := Aside0.mk (blk_below (g := gb6) (bk_ BK_gb6) HBc); have HB0n := Aside0.mk (below_step (by repeat (first | (with_reducible first | exact HB0.out | apply below_alloc | apply pw_below_drewN | apply below_drew1 | refine below_set ?_ GE0_gb1.out | refine below_set ?_ GE0_gb4.out | refine below_set ?_ GE0_gb6.out) | exact HB0.out)) HBc); have HB_bn := Aside0.mk (below_step (by repeat (first | (with_reducible first | exact HB_b.out | apply below_alloc | apply pw_below_drewN | apply below_drew1 | refine below_set ?_ GEb_gb4.out | refine below_set ?_ GEb_gb6.out) | exact HB_b.out)) HBc); have HB_an := Aside0.mk (below_step (by repeat (first | (with_reducible first | exact HB_a.out | apply below_alloc | apply pw_below_drewN | apply below_drew1 | refine below_set ?_ GEa_gb4.out | refine below_set ?_ GEa_gb6.out) | exact HB_a.out)) HBc); have HB_cn := Aside0.mk (below_step (by repeat (first | (with_reducible first | exact HB_c.out | apply below_alloc | apply pw_below_drewN | apply below_drew1 | refine below_set ?_ GEc_gb6.out) | exact HB_c.out)) HBc); clear HBc BK_gb1 BK_gb4 BK_gb6 HB0 HB_b HB_a HB_c hczq19_0 hfzq19_0 hczq19_1 hfzq19_1 hczq19_2 hfzq19_2 hczq19_3 hfzq19_3 hczq19_4 hfzq19_4 hczq19_5 hfzq19_5 hczq19_6 hfzq19_6 hczq20_0 hfzq20_0 hczq20_1 hfzq20_1 hczq21_0 hfzq21_0 hczq21_1 hfzq21_1 hnq22 hmq22 hnq23 hmq23 hnq24 hmq24; have BK_gb1 := BKn_gb1; have BK_gb4 := BKn_gb4; have BK_gb6 := BKn_gb6; have HB0 := HB0n; have HB_b := HB_bn; have HB_a := HB_an; have HB_c := HB_cn; clear BKn_gb1 BKn_gb4 BKn_gb6 HB0n HB_bn HB_an HB_cn; have HV_d := Aside0.mk HV0_d; have HC_d := Aside0.mk HC0_d; clear HV0_d HC0_d; have HB_d := Aside0.mk (Below.refl w9.heap.size w9); refine cz7_ BK_gb1.out ?_; intro hczq25_0 hczq25_1 hczq25_2 hczq25_3 hczq25_4 hczq25_5 hczq25_6 hfzq25_0 hfzq25_1 hfzq25_2 hfzq25_3 hfzq25_4 hfzq25_5 hfzq25_6; refine cz2_ BK_gb4.out ?_; intro hczq26_0 hczq26_1 hfzq26_0 hfzq26_1; refine cz2_ BK_gb6.out ?_; intro hczq27_0 hczq27_1 hfzq27_0 hfzq27_1; have hnq28 := NB_gb1_gb4.out; have hmq28 := NB_gb4_gb1.out; have hnq29 := NB_gb1_gb6.out; have hmq29 := NB_gb6_gb1.out; have hnq30 := NB_gb4_gb6.out; have hmq30 := NB_gb6_gb4.out) | ((with_reducible refine gate_dst (N := 8) rfl ?_); refine bx_ (N := 8) (cs := #[.int .i64 0, .int .i64 0, .int .i64 0, .slice none 0 0, .int .i64 0, .int .i64 0, .int .i64 0]) (t := 24) ?_; intro gb8 hg w10 hbox HBc; have GE0_gb8 : Aside0 (w.heap.size ≤ gb8) := Aside0.mk (by rw [hg]; exact (below_size (by repeat (first | (with_reducible first | exact HB0.out | apply below_alloc | apply pw_below_drewN | apply below_drew1 | refine below_set ?_ GE0_gb1.out | refine below_set ?_ GE0_gb4.out | refine below_set ?_ GE0_gb6.out) | exact HB0.out)))); have GEb_gb8 : Aside0 (w2.heap.size ≤ gb8) := Aside0.mk (by rw [hg]; exact (below_size (by repeat (first | (with_reducible first | exact HB_b.out | apply below_alloc | apply pw_below_drewN | apply below_drew1 | refine below_set ?_ GEb_gb4.out | refine below_set ?_ GEb_gb6.out) | exact HB_b.out)))); have GEa_gb8 : Aside0 (w3.heap.size ≤ gb8) := Aside0.mk (by rw [hg]; exact (below_size (by repeat (first | (with_reducible first | exact HB_a.out | apply below_alloc | apply pw_below_drewN | apply below_drew1 | refine below_set ?_ GEa_gb4.out | refine below_set ?_ GEa_gb6.out) | exact HB_a.out)))); have GEc_gb8 : Aside0 (w6.heap.size ≤ gb8) := Aside0.mk (by rw [hg]; exact (below_size (by repeat (first | (with_reducible first | exact HB_c.out | apply below_alloc | apply pw_below_drewN | apply below_drew1 | refine below_set ?_ GEc_gb6.out) | exact HB_c.out)))); have GEd_gb8 : Aside0 (w9.heap.size ≤ gb8) := Aside0.mk (by rw [hg]; exact (below_size (bl0_ HB_d))); have NB_gb1_gb8 : Aside0 (gb1 ≠ gb8) := Aside0.mk (ne_new (bk_ BK_gb1) hg); have NB_gb8_gb1 : Aside0 (gb8 ≠ gb1) := Aside0.mk (fun e => NB_gb1_gb8.out e.symm); have NB_gb4_gb8 : Aside0 (gb4 ≠ gb8) := Aside0.mk (ne_new (bk_ BK_gb4) hg); have NB_gb8_gb4 : Aside0 (gb8 ≠ gb4) := Aside0.mk (fun e => NB_gb4_gb8.out e.symm); have NB_gb6_gb8 : Aside0 (gb6 ≠ gb8) := Aside0.mk (ne_new (bk_ BK_gb6) hg); have NB_gb8_gb6 : Aside0 (gb8 ≠ gb6) := Aside0.mk (fun e => NB_gb6_gb8.out e.symm); clear hg; have BKn_gb1 : Aside0 (w10.heap[gb1]? = some (.cells #[.int .i64 3, .int .i64 16, .int .i64 2, .slice none 0 0, .int .i64 0, .int .i64 0, .int .i64 0] 24 (0, 0))) := Aside0.mk (blk_below (g := gb1) (bk_ BK_gb1) HBc); have BKn_gb4 : Aside0 (w10.heap[gb4]? = some (.cells #[.slice A_a 2 c_a, .int .i64 0] 30 (0, 0))) := Aside0.mk (blk_below (g := gb4) (bk_ BK_gb4) HBc); have BKn_gb6 : Aside0 (w10.heap[gb6]? = some (.cells #[.slice A_c 0 c_c, .int .i64 2] 30 (0, 0))) := Aside0.mk (blk_below (g := gb6) (bk_ BK_gb6) HBc); have HB0n := Aside0.mk (below_step (by repeat (first | (with_reducible first | exact HB0.out | apply below_alloc | apply pw_below_drewN | apply below_drew1 | refine below_set ?_ GE0_gb1.out | refine below_set ?_ GE0_gb4.out | refine below_set ?_ GE0_gb6.out | refine below_set ?_ GE0_gb8.out) | exact HB0.out)) HBc); have HB_bn := Aside0.mk (below_step (by repeat (first | (with_reducible first | exact HB_b.out | apply below_alloc | apply pw_below_drewN | apply below_drew1 | refine below_set ?_ GEb_gb4.out | refine below_set ?_ GEb_gb6.out | refine below_set ?_ GEb_gb8.out) | exact HB_b.out)) HBc); have HB_an := Aside0.mk (below_step (by repeat (first | (with_reducible first | exact HB_a.out | apply below_alloc | apply pw_below_drewN | apply below_drew1 | refine below_set ?_ GEa_gb4.out | refine below_set ?_ GEa_gb6.out | refine below_set ?_ GEa_gb8.out) | exact HB_a.out)) HBc); have HB_cn := Aside0.mk (below_step (by repeat (first | (with_reducible first | exact HB_c.out | apply below_alloc | apply pw_below_drewN | apply below_drew1 | refine below_set ?_ GEc_gb6.out | refine below_set ?_ GEc_gb8.out) | exact HB_c.out)) HBc); have HB_dn := Aside0.mk (below_step (by repeat (first | (with_reducible first | exact HB_d.out | apply below_alloc | apply pw_below_drewN | apply below_drew1 | refine below_set ?_ GEd_gb8.out) | exact HB_d.out)) HBc); clear HBc BK_gb1 BK_gb4 BK_gb6 HB0 HB_b HB_a HB_c HB_d hczq25_0 hfzq25_0 hczq25_1 hfzq25_1 hczq25_2 hfzq25_2 hczq25_3 hfzq25_3 hczq25_4 hfzq25_4 hczq25_5 hfzq25_5 hczq25_6 hfzq25_6 hczq26_0 hfzq26_0 hczq26_1 hfzq26_1 hczq27_0 hfzq27_0 hczq27_1 hfzq27_1 hnq28 hmq28 hnq29 hmq29 hnq30 hmq30; have BK_gb1 := BKn_gb1; have BK_gb4 := BKn_gb4; have BK_gb6 := BKn_gb6; have HB0 := HB0n; have HB_b := HB_bn; have HB_a := HB_an; have HB_c := HB_cn; have HB_d := HB_dn; clear BKn_gb1 BKn_gb4 BKn_gb6 HB0n HB_bn HB_an HB_cn HB_dn; have BK_gb8 := Aside0.mk hbox; clear hbox; refine cz7_ BK_gb1.out ?_; intro hczq31_0 hczq31_1 hczq31_2 hczq31_3 hczq31_4 hczq31_5 hczq31_6 hfzq31_0 hfzq31_1 hfzq31_2 hfzq31_3 hfzq31_4 hfzq31_5 hfzq31_6; refine cz2_ BK_gb4.out ?_; intro hczq32_0 hczq32_1 hfzq32_0 hfzq32_1; refine cz2_ BK_gb6.out ?_; intro hczq33_0 hczq33_1 hfzq33_0 hfzq33_1; refine cz7_ BK_gb8.out ?_; intro hczq34_0 hczq34_1 hczq34_2 hczq34_3 hczq34_4 hczq34_5 hczq34_6 hfzq34_0 hfzq34_1 hfzq34_2 hfzq34_3 hfzq34_4 hfzq34_5 hfzq34_6; have hnq35 := NB_gb1_gb4.out; have hmq35 := NB_gb4_gb1.out; have hnq36 := NB_gb1_gb6.out; have hmq36 := NB_gb6_gb1.out; have hnq37 := NB_gb1_gb8.out; have hmq37 := NB_gb8_gb1.out; have hnq38 := NB_gb4_gb6.out; have hmq38 := NB_gb6_gb4.out; have hnq39 := NB_gb4_gb8.out; have hmq39 := NB_gb8_gb4.out; have hnq40 := NB_gb6_gb8.out; have hmq40 := NB_gb8_gb6.out))
 have BKn_gb1 : Aside0 ((((((((w10.setCell ⟨gb8, 0, none⟩ (.int .i64 0)).setCell ⟨gb8, 1, none⟩ (.int .i64 0)).setCell ⟨gb8, 2, none⟩ (.int .i64 0)).setCell ⟨gb8, 3, none⟩ (.slice A_d 0 c_d)).setCell ⟨gb8, 4, none⟩ (.int .i64 0)).setCell ⟨gb8, 5, none⟩ (.int .i64 0)).setCell ⟨gb8, 6, none⟩ (.int .i64 0)).heap[gb1]? = some (.cells #[.int .i64 3, .int .i64 16, .int .i64 2, .slice none 0 0, .int .i64 0, .int .i64 0, .int .i64 0] 24 (0, 0))) := Aside0.mk (by (with_reducible repeat (first | refine blk_drewN ?_ _ | refine blk_drew ?_ | refine blk_alloc ?_ _)); refine blk_far ?_ NB_gb1_gb8.out _; (with_reducible repeat (first | refine blk_drewN ?_ _ | refine blk_drew ?_ | refine blk_alloc ?_ _)); refine blk_far ?_ NB_gb1_gb8.out _; (with_reducible repeat (first | refine blk_drewN ?_ _ | refine blk_drew ?_ | refine blk_alloc ?_ _)); refine blk_far ?_ NB_gb1_gb8.out _; (with_reducible repeat (first | refine blk_drewN ?_ _ | refine blk_drew ?_ | refine blk_alloc ?_ _)); refine blk_far ?_ NB_gb1_gb8.out _; (with_reducible repeat (first | refine blk_drewN ?_ _ | refine blk_drew ?_ | refine blk_alloc ?_ _)); refine blk_far ?_ NB_gb1_gb8.out _; (with_reducible repeat (first | refine blk_drewN ?_ _ | refine blk_drew ?_ | refine blk_alloc ?_ _)); refine blk_far ?_ NB_gb1_gb8.out _; (with_reducible repeat (first | refine blk_drewN ?_ _ | refine blk_drew ?_ | refine blk_alloc ?_ _)); refine blk_far ?_ NB_gb1_gb8.out _; (with_reducible repeat (first | refine blk_drewN ?_ _ | refine blk_drew ?_ | refine blk_alloc ?_ _)); exact BK_gb1.out)
 have BKn_gb4 : Aside0 ((((((((w10.setCell ⟨gb8, 0, none⟩ (.int .i64 0)).setCell ⟨gb8, 1, none⟩ (.int .i64 0)).setCell ⟨gb8, 2, none⟩ (.int .i64 0)).setCell ⟨gb8, 3, none⟩ (.slice A_d 0 c_d)).setCell ⟨gb8, 4, none⟩ (.int .i64 0)).setCell ⟨gb8, 5, none⟩ (.int .i64 0)).setCell ⟨gb8, 6, none⟩ (.int .i64 0)).heap[gb4]? = some (.cells #[.slice A_a 2 c_a, .int .i64 0] 30 (0, 0))) := Aside0.mk (by (with_reducible repeat (first | refine blk_drewN ?_ _ | refine blk_drew ?_ | refine blk_alloc ?_ _)); refine blk_far ?_ NB_gb4_gb8.out _; (with_reducible repeat (first | refine blk_drewN ?_ _ | refine blk_drew ?_ | refine blk_alloc ?_ _)); refine blk_far ?_ NB_gb4_gb8.out _; (with_reducible repeat (first | refine blk_drewN ?_ _ | refine blk_drew ?_ | refine blk_alloc ?_ _)); refine blk_far ?_ NB_gb4_gb8.out _; (with_reducible repeat (first | refine blk_drewN ?_ _ | refine blk_drew ?_ | refine blk_alloc ?_ _)); refine blk_far ?_ NB_gb4_gb8.out _; (with_reducible repeat (first | refine blk_drewN ?_ _ | refine blk_drew ?_ | refine blk_alloc ?_ _)); refine blk_far ?_ NB_gb4_gb8.out _; (with_reducible repeat (first | refine blk_drewN ?_ _ | refine blk_drew ?_ | refine blk_alloc ?_ _)); refine blk_far ?_ NB_gb4_gb8.out _; (with_reducible repeat (first | refine blk_drewN ?_ _ | refine blk_drew ?_ | refine blk_alloc ?_ _)); refine blk_far ?_ NB_gb4_gb8.out _; (with_reducible repeat (first | refine blk_drewN ?_ _ | refine blk_drew ?_ | refine blk_alloc ?_ _)); exact BK_gb4.out)
 have BKn_gb6 : Aside0 ((((((((w10.setCell ⟨gb8, 0, none⟩ (.int .i64 0)).setCell ⟨gb8, 1, none⟩ (.int .i64 0)).setCell ⟨gb8, 2, none⟩ (.int .i64 0)).setCell ⟨gb8, 3, none⟩ (.slice A_d 0 c_d)).setCell ⟨gb8, 4, none⟩ (.int .i64 0)).setCell ⟨gb8, 5, none⟩ (.int .i64 0)).setCell ⟨gb8, 6, none⟩ (.int .i64 0)).heap[gb6]? = some (.cells #[.slice A_c 0 c_c, .int .i64 2] 30 (0, 0))) := Aside0.mk (by (with_reducible repeat (first | refine blk_drewN ?_ _ | refine blk_drew ?_ | refine blk_alloc ?_ _)); refine blk_far ?_ NB_gb6_gb8.out _; (with_reducible repeat (first | refine blk_drewN ?_ _ | refine blk_drew ?_ | refine blk_alloc ?_ _)); refine blk_far ?_ NB_gb6_gb8.out _; (with_reducible repeat (first | refine blk_drewN ?_ _ | refine blk_drew ?_ | refine blk_alloc ?_ _)); refine blk_far ?_ NB_gb6_gb8.out _; (with_reducible repeat (first | refine blk_drewN ?_ _ | refine blk_drew ?_ | refine blk_alloc ?_ _)); refine blk_far ?_ NB_gb6_gb8.out _; (with_reducible repeat (first | refine blk_drewN ?_ _ | refine blk_drew ?_ | refine blk_alloc ?_ _)); refine blk_far ?_ NB_gb6_gb8.out _; (with_reducible repeat (first | refine blk_drewN ?_ _ | refine blk_drew ?_ | refine blk_alloc ?_ _)); refine blk_far ?_ NB_gb6_gb8.out _; (with_reducible repeat (first | refine blk_drewN ?_ _ | refine blk_drew ?_ | refine blk_alloc ?_ _)); refine blk_far ?_ NB_gb6_gb8.out _; (with_reducible repeat (first | refine blk_drewN ?_ _ | refine blk_drew ?_ | refine blk_alloc ?_ _)); exact BK_gb6.out)
 have BKn_gb8 : Aside0 ((((((((w10.setCell ⟨gb8, 0, none⟩ (.int .i64 0)).setCell ⟨gb8, 1, none⟩ (.int .i64 0)).setCell ⟨gb8, 2, none⟩ (.int .i64 0)).setCell ⟨gb8, 3, none⟩ (.slice A_d 0 c_d)).setCell ⟨gb8, 4, none⟩ (.int .i64 0)).setCell ⟨gb8, 5, none⟩ (.int .i64 0)).setCell ⟨gb8, 6, none⟩ (.int .i64 0)).heap[gb8]? = some (.cells #[.int .i64 0, .int .i64 0, .int .i64 0, .slice A_d 0 c_d, .int .i64 0, .int .i64 0, .int .i64 0] 24 (0, 0))) := Aside0.mk (by (with_reducible repeat (first | refine blk_drewN ?_ _ | refine blk_drew ?_ | refine blk_alloc ?_ _)); refine blk_put (cs := #[.int .i64 0, .int .i64 0, .int .i64 0, .slice A_d 0 c_d, .int .i64 0, .int .i64 0, .int .i64 0]) ?_ 6 _ rfl; (with_reducible repeat (first | refine blk_drewN ?_ _ | refine blk_drew ?_ | refine blk_alloc ?_ _)); refine blk_put (cs := #[.int .i64 0, .int .i64 0, .int .i64 0, .slice A_d 0 c_d, .int .i64 0, .int .i64 0, .int .i64 0]) ?_ 5 _ rfl; (with_reducible repeat (first | refine blk_drewN ?_ _ | refine blk_drew ?_ | refine blk_alloc ?_ _)); refine blk_put (cs := #[.int .i64 0, .int .i64 0, .int .i64 0, .slice A_d 0 c_d, .int .i64 0, .int .i64 0, .int .i64 0]) ?_ 4 _ rfl; (with_reducible repeat (first | refine blk_drewN ?_ _ | refine blk_drew ?_ | refine blk_alloc ?_ _)); refine blk_put (cs := #[.int .i64 0, .int .i64 0, .int .i64 0, .slice none 0 0, .int .i64 0, .int .i64 0, .int .i64 0]) ?_ 3 _ rfl; (with_reducible repeat (first | refine blk_drewN ?_ _ | refine blk_drew ?_ | refine blk_alloc ?_ _)); refine blk_put (cs := #[.int .i64 0, .int .i64 0, .int .i64 0, .slice none 0 0, .int .i64 0, .int .i64 0, .int .i64 0]) ?_ 2 _ rfl; (with_reducible repeat (first | refine blk_drewN ?_ _ | refine blk_drew ?_ | refine blk_alloc ?_ _)); refine blk_put (cs := #[.int .i64 0, .int .i64 0, .int .i64 0, .slice none 0 0, .int .i64 0, .int .i64 0, .int .i64 0]) ?_ 1 _ rfl; (with_reducible repeat (first | refine blk_drewN ?_ _ | refine blk_drew ?_ | refine blk_alloc ?_ _)); refine blk_put (cs := #[.int .i64 0, .int .i64 0, .int .i64 0, .slice none 0 0, .int .i64 0, .int .i64 0, .int .i64 0]) ?_ 0 _ rfl; (with_reducible repeat (first | refine blk_drewN ?_ _ | refine blk_drew ?_ | refine blk_alloc ?_ _)); exact BK_gb8.out)
 have HB0n : Aside0 (Below w.heap.size w (((((((w10.setCell ⟨gb8, 0, none⟩ (.int .i64 0)).setCell ⟨gb8, 1, none⟩ (.int .i64 0)).setCell ⟨gb8, 2, none⟩ (.int .i64 0)).setCell ⟨gb8, 3, none⟩ (.slice A_d 0 c_d)).setCell ⟨gb8, 4, none⟩ (.int .i64 0)).setCell ⟨gb8, 5, none⟩ (.int .i64 0)).setCell ⟨gb8, 6, none⟩ (.int .i64 0))) := Aside0.mk (by repeat (first | (with_reducible first | exact HB0.out | apply below_alloc | apply pw_below_drewN | apply below_drew1 | refine below_set ?_ GE0_gb1.out | refine below_set ?_ GE0_gb4.out | refine below_set ?_ GE0_gb6.out | refine below_set ?_ GE0_gb8.out) | exact HB0.out))
 have HB_bn : Aside0 (Below w2.heap.size w2 (((((((w10.setCell ⟨gb8, 0, none⟩ (.int .i64 0)).setCell ⟨gb8, 1, none⟩ (.int .i64 0)).setCell ⟨gb8, 2, none⟩ (.int .i64 0)).setCell ⟨gb8, 3, none⟩ (.slice A_d 0 c_d)).setCell ⟨gb8, 4, none⟩ (.int .i64 0)).setCell ⟨gb8, 5, none⟩ (.int .i64 0)).setCell ⟨gb8, 6, none⟩ (.int .i64 0))) := Aside0.mk (by repeat (first | (with_reducible first | exact HB_b.out | apply below_alloc | apply pw_below_drewN | apply below_drew1 | refine below_set ?_ GEb_gb4.out | refine below_set ?_ GEb_gb6.out | refine below_set ?_ GEb_gb8.out) | exact HB_b.out))
 have HB_an : Aside0 (Below w3.heap.size w3 (((((((w10.setCell ⟨gb8, 0, none⟩ (.int .i64 0)).setCell ⟨gb8, 1, none⟩ (.int .i64 0)).setCell ⟨gb8, 2, none⟩ (.int .i64 0)).setCell ⟨gb8, 3, none⟩ (.slice A_d 0 c_d)).setCell ⟨gb8, 4, none⟩ (.int .i64 0)).setCell ⟨gb8, 5, none⟩ (.int .i64 0)).setCell ⟨gb8, 6, none⟩ (.int .i64 0))) := Aside0.mk (by repeat (first | (with_reducible first | exact HB_a.out | apply below_alloc | apply pw_below_drewN | apply below_drew1 | refine below_set ?_ GEa_gb4.out | refine below_set ?_ GEa_gb6.out | refine below_set ?_ GEa_gb8.out) | exact HB_a.out))
 have HB_cn : Aside0 (Below w6.heap.size w6 (((((((w10.setCell ⟨gb8, 0, none⟩ (.int .i64 0)).setCell ⟨gb8, 1, none⟩ (.int .i64 0)).setCell ⟨gb8, 2, none⟩ (.int .i64 0)).setCell ⟨gb8, 3, none⟩ (.slice A_d 0 c_d)).setCell ⟨gb8, 4, none⟩ (.int .i64 0)).setCell ⟨gb8, 5, none⟩ (.int .i64 0)).setCell ⟨gb8, 6, none⟩ (.int .i64 0))) := Aside0.mk (by repeat (first | (with_reducible first | exact HB_c.out | apply below_alloc | apply pw_below_drewN | apply below_drew1 | refine below_set ?_ GEc_gb6.out | refine below_set ?_ GEc_gb8.out) | exact HB_c.out))
 have HB_dn : Aside0 (Below w9.heap.size w9 (((((((w10.setCell ⟨gb8, 0, none⟩ (.int .i64 0)).setCell ⟨gb8, 1, none⟩ (.int .i64 0)).setCell ⟨gb8, 2, none⟩ (.int .i64 0)).setCell ⟨gb8, 3, none⟩ (.slice A_d 0 c_d)).setCell ⟨gb8, 4, none⟩ (.int .i64 0)).setCell ⟨gb8, 5, none⟩ (.int .i64 0)).setCell ⟨gb8, 6, none⟩ (.int .i64 0))) := Aside0.mk (by repeat (first | (with_reducible first | exact HB_d.out | apply below_alloc | apply pw_below_drewN | apply below_drew1 | refine below_set ?_ GEd_gb8.out) | exact HB_d.out))
 clear BK_gb1 BK_gb4 BK_gb6 BK_gb8 HB0 HB_b HB_a HB_c HB_d hczq31_0 hfzq31_0 hczq31_1 hfzq31_1 hczq31_2 hfzq31_2 hczq31_3 hfzq31_3 hczq31_4 hfzq31_4 hczq31_5 hfzq31_5 hczq31_6 hfzq31_6 hczq32_0 hfzq32_0 hczq32_1 hfzq32_1 hczq33_0 hfzq33_0 hczq33_1 hfzq33_1 hczq34_0 hfzq34_0 hczq34_1 hfzq34_1 hczq34_2 hfzq34_2 hczq34_3 hfzq34_3 hczq34_4 hfzq34_4 hczq34_5 hfzq34_5 hczq34_6 hfzq34_6 hnq35 hmq35 hnq36 hmq36 hnq37 hmq37 hnq38 hmq38 hnq39 hmq39 hnq40 hmq40
 have BK_gb1 := BKn_gb1
 have BK_gb4 := BKn_gb4
 have BK_gb6 := BKn_gb6
 have BK_gb8 := BKn_gb8
 have HB0 := HB0n
 have HB_b := HB_bn
 have HB_a := HB_an
 have HB_c := HB_cn
 have HB_d := HB_dn
 clear BKn_gb1 BKn_gb4 BKn_gb6 BKn_gb8 HB0n HB_bn HB_an HB_cn HB_dn
 generalize (((((((w10.setCell ⟨gb8, 0, none⟩ (.int .i64 0)).setCell ⟨gb8, 1, none⟩ (.int .i64 0)).setCell ⟨gb8, 2, none⟩ (.int .i64 0)).setCell ⟨gb8, 3, none⟩ (.slice A_d 0 c_d)).setCell ⟨gb8, 4, none⟩ (.int .i64 0)).setCell ⟨gb8, 5, none⟩ (.int .i64 0)).setCell ⟨gb8, 6, none⟩ (.int .i64 0)) = w11 at BK_gb1 BK_gb4 BK_gb6 BK_gb8 HB0 HB_b HB_a HB_c HB_d ⊢
 refine cz7_ BK_gb1.out ?_; intro hczq41_0 hczq41_1 hczq41_2 hczq41_3 hczq41_4 hczq41_5 hczq41_6 hfzq41_0 hfzq41_1 hfzq41_2 hfzq41_3 hfzq41_4 hfzq41_5 hfzq41_6
 refine cz2_ BK_gb4.out ?_; intro hczq42_0 hczq42_1 hfzq42_0 hfzq42_1
 refine cz2_ BK_gb6.out ?_; intro hczq43_0 hczq43_1 hfzq43_0 hfzq43_1
 refine cz7_ BK_gb8.out ?_; intro hczq44_0 hczq44_1 hczq44_2 hczq44_3 hczq44_4 hczq44_5 hczq44_6 hfzq44_0 hfzq44_1 hfzq44_2 hfzq44_3 hfzq44_4 hfzq44_5 hfzq44_6
 have hnq45 := NB_gb1_gb4.out; have hmq45 := NB_gb4_gb1.out
 have hnq46 := NB_gb1_gb6.out; have hmq46 := NB_gb6_gb1.out
 have hnq47 := NB_gb1_gb8.out; have hmq47 := NB_gb8_gb1.out
 have hnq48 := NB_gb4_gb6.out; have hmq48 := NB_gb6_gb4.out
 have hnq49 := NB_gb4_gb8.out; have hmq49 := NB_gb8_gb4.out
 have hnq50 := NB_gb6_gb8.out; have hmq50 := NB_gb8_gb6.out
 have hcv : Sem.run Try.prog (convert 58 9 (.slice A_b 5 c_b)) w11 = .ok (.string ⟨#[3, 0, 16, 0, 2]⟩) w11 := Kd.C_string (P := Try.prog) (A := A_b) (c := c_b) Try.underlying58 Try.underlying5 Try.underlying9 (Kd.C_below HV_b.out (by repeat (first | (with_reducible first | exact HB_b.out | apply below_alloc | apply pw_below_drewN | apply below_drew1 | refine below_set ?_ GEb_gb4.out | refine below_set ?_ GEb_gb6.out | refine below_set ?_ GEb_gb8.out) | exact HB_b.out)))
 have hca : ∀ o, (w11.alloc o).cell? ⟨gb6, 1, none⟩ = some (.int .i64 2) := fun o => (blk_cell (blk_alloc BK_gb6.out o) 1).trans rfl
 go_wp2_with (go_at_call 42; refine (PR.basculeref01_Ints.calls 60 A_a c_a [1, 2] (some _) 2 [1, 2] true _ (Kd.C_below HV_a.out (by repeat (first | (with_reducible first | exact HB_a.out | apply below_alloc | apply pw_below_drewN | apply below_drew1 | refine below_set ?_ GEa_gb4.out | refine below_set ?_ GEa_gb6.out | refine below_set ?_ GEa_gb8.out) | exact HB_a.out))) HC_a.out (litI_C _ [1, 2] (by decide)) (Nat.le_refl _) aw5.out).mono ?_; rintro e w' ⟨rfl, ⟨nd, rfl⟩⟩)
 go_ret
 exact ⟨rfl, (by repeat (first | (with_reducible first | exact HB0.out | apply below_alloc | apply pw_below_drewN | apply below_drew1 | refine below_set ?_ GE0_gb1.out | refine below_set ?_ GE0_gb4.out | refine below_set ?_ GE0_gb6.out | refine below_set ?_ GE0_gb8.out) | exact HB0.out))⟩
end Go.Proofs.Ytocicifgglkaeaa.ExtQ
end

section
namespace Go.Proofs.Ytocicifgglkaeaa.MthD
open Go.RowKit Go.Proofs.YtocicifgglkaeaaW.PrintWords Go.Proofs.YtocicifgglkaeaaW.PrintLast Go.Proofs.YtocicifgglkaeaaW.PrintMore Go.Proofs.Ytocicifgglkaeaa.ExtF Go.Proofs.Ytocicifgglkaeaa.ExtP Go.Proofs.Ytocicifgglkaeaa.ExtQ Go.Proofs.Ytocicifgglkaeaa.PP Go.Proofs.Ytocicifgglkaeaa.PQ Go.Proofs.Ytocicifgglkaeaa.ExtM Go.Proofs.Ytocicifgglkaeaa.MathP Go.Proofs.Ytocicifgglkaeaa.Mth
set_option linter.unusedVariables false
set_option linter.unusedSimpArgs false
theorem ints_same (l : List Int) (hl : l.length ≤ 1000000000000) (k : Nat) (hk : l.length + 1 ≤ k) : PR.basculeref01_Ints.f k l l = some true := MathP.ints_f l hl k hk
theorem same_f (k : Nat) (fn a1 a2 : Int) (l : List Int) (a4 a5 a6 : Int) (hl : l.length ≤ 1000000000000) (hk : l.length + 1 ≤ k) : PR.basculeref03_Same.f k fn a1 a2 l a4 a5 a6 fn a1 a2 l a4 a5 a6 = some true := by
 unfold PR.basculeref03_Same.f
 simp [ints_same l hl k hk]
end Go.Proofs.Ytocicifgglkaeaa.MthD
end

section
namespace Go.Proofs.Ytocicifgglkaeaa.Core
open Go.RowKit Go.Proofs.YtocicifgglkaeaaW.PrintWords Go.Proofs.YtocicifgglkaeaaW.PrintLast Go.Proofs.YtocicifgglkaeaaW.PrintMore
set_option linter.unusedVariables false
set_option linter.unusedSimpArgs false
structure Ext (M : Nat → Prop) (w w' : World) : Prop where
 os : w'.os = w.os
 tape : w'.tape = w.tape
 output : w'.output = w.output
 size : w.heap.size ≤ w'.heap.size
 block : ∀ k, k < w.heap.size → ¬ M k → w'.heap[k]? = w.heap[k]?
structure Ever (M : Nat → Prop) (w : World) (P : World → Prop) : Prop where
 at_ : ∀ w', Ext M w w' → P w'
section
variable {M M' : Nat → Prop} {w w1 w2 W : World} {P Q : World → Prop}
theorem Ext.refl (M : Nat → Prop) (w : World) : Ext M w w := ⟨rfl, rfl, rfl, Nat.le_refl _, fun _ _ _ => rfl⟩
theorem Ext.trans (h : Ext M w w1) (k : Ext M w1 w2) : Ext M w w2 :=
 ⟨k.os.trans h.os, k.tape.trans h.tape, k.output.trans h.output, Nat.le_trans h.size k.size, fun i hi hm => (k.block i (Nat.lt_of_lt_of_le hi h.size) hm).trans (h.block i hi hm)⟩
theorem Ext.mono (h : Ext M w w1) (hm : ∀ k, k < w.heap.size → M k → M' k) : Ext M' w w1 := ⟨h.os, h.tape, h.output, h.size, fun i hi hn => h.block i hi (fun a => hn (hm i hi a))⟩
theorem Ext.of_below (h : Below w.heap.size w w1) : Ext M w w1 := ⟨h.os, h.tape, h.output, h.size, fun i hi _ => h.block i hi⟩
theorem Ext.then_below (h : Ext M w w1) (k : Below w1.heap.size w1 w2) : Ext M w w2 := h.trans (.of_below k)
theorem Ext.alloc (h : Ext M w W) (o : Obj) : Ext M w (W.alloc o) := h.then_below (below_alloc (Below.refl _ _) o)
theorem Ext.drew (h : Ext M w W) : Ext M w W.drew := h.then_below (below_drew1 (Below.refl _ _))
theorem Ext.grown (h : Ext M w W) {row : Option Nat} (hg : W.grownBy w1 row) (hr : ∀ k, row = some k → M k ∨ w.heap.size ≤ k) : Ext M w w1 :=
 ⟨hg.os.trans h.os, hg.tape.trans h.tape, hg.output.trans h.output, Nat.le_trans h.size hg.size, fun k hk hm => (hg.block k (Nat.lt_of_lt_of_le hk h.size) (fun e => by rcases hr k e.symm with a | a; exact hm a; omega)).trans (h.block k hk hm)⟩
theorem Ext.below (h : Ext M w W) (hM : ∀ k, M k → w.heap.size ≤ k) : Below w.heap.size w W := ⟨h.os, h.tape, h.output, h.size, fun k hk => h.block k hk (fun a => by have := hM k a; omega)⟩
theorem Ext.grow (h : Ext M w W) (k : Ext M' W w2) (hM : ∀ k, M' k → M k ∨ w.heap.size ≤ k) : Ext M w w2 :=
 ⟨k.os.trans h.os, k.tape.trans h.tape, k.output.trans h.output, Nat.le_trans h.size k.size, fun i hi hm => (k.block i (Nat.lt_of_lt_of_le hi h.size) (fun a => by rcases hM i a with b | b; exact hm b; omega)).trans (h.block i hi hm)⟩
theorem Ever.now (h : Ever M w P) : P w := h.at_ w (Ext.refl _ _)
theorem Ever.step (h : Ever M w P) (k : Ext M w w1) : Ever M w1 P := ⟨fun w2 h2 => h.at_ w2 (k.trans h2)⟩
theorem Ever.grow (h : Ever M w P) (k : Ext M w w1) (hM : ∀ k, M' k → M k ∨ w.heap.size ≤ k) : Ever M' w1 P := ⟨fun w2 h2 => h.at_ w2 (k.grow h2 hM)⟩
theorem Ever.imp (h : Ever M w P) (k : ∀ w, P w → Q w) : Ever M w Q := ⟨fun w1 h1 => k _ (h.at_ w1 h1)⟩
theorem Ever.old (h : P w) (hb : ∀ w1, Below w.heap.size w w1 → P w1) (hM : ∀ k, M k → w.heap.size ≤ k) : Ever M w P := ⟨fun w1 h1 => hb w1 (h1.below hM)⟩
theorem Ever.C {α : Type} {d : Kd α} {A : Option Addr} {n : Nat} {xs : List α} (h : d.C w A n xs) (hM : ∀ k, M k → w.heap.size ≤ k) : Ever M w (fun W => d.C W A n xs) := .old h (fun _ hb => Kd.C_below h hb) hM
theorem Ever.R {α : Type} {d : Kd α} {e base : Nat} {ok : Nat → Prop} {A : Option Addr} {n c : Nat} {xs : List α} (h : d.R e w base ok (.slice A n c) xs) (hM : ∀ k, M k → k < base) : Ever M w (fun W => d.C W A xs.length xs) := by
 refine ⟨fun w1 h1 => ?_⟩
 have h2 : d.R e w1 base (fun k => ok k ∧ base ≤ k ∧ k < w.heap.size ∧ ∃ q, q ∈ e :: d.E ∧ ∃ cells, w.heap[k]? = some (.cells cells q (0, 0))) (.slice A n c) xs :=
  Kd.R_move (Kd.R_bound h) (fun k hk => h1.block k hk.2.2.1 (fun a => by have := hM k a; have := hk.2.1; omega))
 exact (Kd.R_reads' h2).2.2
end
section
variable {α : Type} {enc : α → Value} {h1 : ∀ x, (enc x).oneCell' = true} {M : Nat → Prop} {w : World} {A : Option Addr}
theorem Ever.take {d : Kd α} {xs : List α} (h : Ever M w (fun W => d.C W A xs.length xs)) {m : Nat} (hm : m ≤ xs.length) : Ever M w (fun W => d.C W A (xs.take m).length (xs.take m)) := h.imp (fun _ k => Kd.C_take k hm)
end
def Mv (M : Nat → Prop) (v : Value) (k : Nat) : Prop := M k ∨ some k = v.ownBlock
def OwnE {α : Type} (d : Kd α) (M : Nat → Prop) (e : TypeId) (base : Nat) (W : World) (v : Value) (xs : List α) : Prop :=
 ∃ inner, W.ownsRow base e d.sz v xs.length inner ∧ Reps (fun x cs => Ever (Mv M v) W (fun W => d.K W x cs)) d.sz xs inner
section
variable {α : Type} {d : Kd α} {M M' : Nat → Prop} {e : TypeId} {base : Nat} {W w1 : World} {v v1 : Value} {xs : List α} {P : World → Prop}
theorem OwnE.slice (h : OwnE d M e base W v xs) : ∃ A c, v = .slice A xs.length c := by obtain ⟨i, h, _⟩ := h; exact own_slice h
theorem OwnE.step (h : OwnE d M e base W v xs) (k : Ext (Mv M v) W w1) (hv : ∀ k, v.ownBlock = some k → w1.heap[k]? = W.heap[k]?) : OwnE d M e base w1 v xs := by
 obtain ⟨i, h1, h2⟩ := h
 exact ⟨i, own_move h1 hv, h2.imp_ (fun _ _ h => h.step k)⟩
theorem OwnE.view (h : OwnE d M e base W v xs) (hM : ∀ k, v.ownBlock = some k → ¬ M k) : ∃ A c, v = .slice A xs.length c ∧ xs.length ≤ c ∧ Ever M W (fun W => d.C W A xs.length xs) := by
 obtain ⟨i, h1, h2⟩ := h
 obtain ⟨A, c, rfl⟩ := own_slice h1
 refine ⟨A, c, rfl, own_cap h1, ⟨fun w1 k => ?_⟩⟩
 have h3 : w1.ownsRow base e d.sz (.slice A xs.length c) xs.length i := own_move h1 (fun b hb => k.block b (own_lt h1 b hb) (hM b hb))
 have h4 : Reps (d.K w1) d.sz xs i := h2.imp_ (fun _ _ h => h.at_ _ (k.mono (fun _ _ a => .inl a)))
 obtain ⟨A', c', e', h5⟩ := own_reads_row h3 h4 rfl
 cases e'
 exact h5
theorem Mv_grow {W w1 : World} (hat : v1.ownBlock = v.ownBlock ∨ ∃ b, v1.ownBlock = some b ∧ W.heap.size ≤ b) (k : Nat) (h : Mv M v1 k) : Mv M v k ∨ W.heap.size ≤ k := by
 rcases h with h | h
 ·exact .inl (.inl h)
 ·rcases hat with a | ⟨b, a, hb⟩
  ·exact .inl (.inr (h.trans a))
  ·rw [a] at h; injection h with h; exact .inr (by omega)
theorem Ext.of_grown (h : W.grownBy w1 v.ownBlock) : Ext (Mv M v) W w1 := ⟨h.os, h.tape, h.output, h.size, fun k hk hm => h.block k hk (fun e => hm (.inr e))⟩
end
section
variable {P : Program} {ops : Array Oper} {rest : List Oper} {o : Oper} {a : Act} {Q : Exit → Act → World → Prop} {α : Type}
theorem ev_append_rows (d : Kd α) {M : Nat → Prop} {w0 W : World} (base : Nat) (hgd : o.guard = none) (s x : Operand) (t e : TypeId) (z : Value) (bytes : Nat)
 (ho : o.op = .call { callee := .builtin .append, args := #[s, x], argTypes := #[t, t] })
 (ht : P.underlying t = some (.slice e)) (hinfo : (P.info? e).map (fun i => (i.zero, i.size, i.bytes)) = some (some z, d.sz, bytes)) (hz : z.cells.size = d.sz) (hs0 : 0 < d.sz) (hb0 : 0 < bytes)
 (v : Value) (xs ys : List α) (A : Option Addr) (m c : Nat) (hs : a.eval s = v) (hx : a.eval x = .slice A m c)
 (HO : OwnE d M e base W v xs) (HR : ReadsRow (fun x cs => cs.length = d.sz ∧ (∀ u ∈ cs, u.oneCell' = true) ∧ Ever (Mv M v) W (fun W => d.K W x cs)) d.sz W A m ys)
 (HB : Below base w0 W) (hbase : base ≤ W.heap.size) (hl : (xs.length + m) * bytes ≤ 140737488355328)
 (h : ∀ v1 w1, OwnE d M e base w1 v1 (xs ++ ys) → Below base w0 w1 → W.grownBy w1 v.ownBlock → (v1.ownBlock = v.ownBlock ∨ ∃ b, v1.ownBlock = some b ∧ W.heap.size ≤ b) → wpList P ops Q rest (a.put o.dst v1) w1) :
 wpList P ops Q (o :: rest) a W := by
 obtain ⟨i0, hi, hzz⟩ := Option.map_eq_some_iff.1 hinfo
 simp only [Prod.mk.injEq] at hzz
 obtain ⟨hz0, hz1, hz2⟩ := hzz
 have hm : ys.length = m := HR.1
 have hlen : xs.length + m ≤ 140737488355328 := Nat.le_trans (Nat.le_mul_of_pos_right _ hb0) hl
 obtain ⟨inner, hown, hr⟩ := HO
 rcases A with _ | ad
 ·have h0 : m = 0 := by
   rcases Nat.eq_zero_or_pos m with h0 | h0
   ·exact h0
   ·obtain ⟨ad, h, _⟩ := HR.2.2 h0
    cases h
  subst h0
  obtain rfl : ys = [] := List.eq_nil_of_length_eq_zero hm
  have hrun : (Builtin.append_ #[t, t] o.type #[v, .slice none 0 c]).run P W = .ok v W := by
   rcases hown.2 with ⟨rfl, hn⟩ | ⟨g, cap, cur, rfl, _, _, hnc, _⟩
   ·simp [Builtin.append_, run_underlying ht, sizeOf, typeInfo, hi, Builtin.lenOf, Builtin.firstCells]
   ·simp [Builtin.append_, run_underlying ht, sizeOf, typeInfo, hi, Builtin.lenOf, Builtin.firstCells, hnc, storeCells]
  refine wpList_plain hgd fun K hK => ?_
  unfold Oper.wp execOp
  simp only [ho, resolve, invoke, builtin, Sem.run_bind, Sem.run_pure, Result.andThen_ok, List.map_toArray, List.map_cons, List.map_nil, hs, hx, hrun]
  exact hK _ _ (h v W (by rw [List.append_nil]; exact ⟨inner, hown, hr⟩) HB (World.grownBy.refl W _) (.inl rfl))
 ·obtain ⟨news, hnr, hnc⟩ := ReadsRow.inner_ HR
  have hone : ∀ u ∈ news, u.oneCell' = true := by
   intro u hu
   obtain ⟨q, hq, rfl⟩ := List.mem_iff_getElem.1 hu
   have hql : q / d.sz < ys.length := by
    rw [Nat.div_lt_iff_lt_mul hs0]
    rw [← hnr.1]
    exact hq
   have hc := hnr.2 (q / d.sz) _ (List.getElem?_eq_getElem hql)
   refine hc.2.1 _ ?_
   rw [List.mem_iff_getElem?]
   refine ⟨q % d.sz, ?_⟩
   rw [List.getElem?_take, if_pos (Nat.mod_lt _ hs0), List.getElem?_drop, Nat.mul_comm, Nat.div_add_mod, List.getElem?_eq_getElem hq]
  refine wpList_append_own_at W hgd s x t ho base e i0 z d.sz bytes ht hi hz0 hz1 hz2 hz hs0 v xs.length inner hs hown ad m c news hx (by rw [hnr.1, hm]) hnc hone (by simp only [maxLen]; omega) hl hbase (fun v1 w1 h1 h3 _ h4 => ?_)
  have h4' : v1.ownBlock = v.ownBlock ∨ ∃ b, v1.ownBlock = some b ∧ W.heap.size ≤ b := by
   rcases h4 with a | a
   ·exact .inl a
   ·exact .inr ⟨_, a, Nat.le_refl _⟩
  have hE : Ext (Mv M v) W w1 := Ext.of_grown h3
  refine h v1 w1 ⟨inner ++ news, by rw [List.length_append, hm]; exact h1, ?_⟩ (HB.grown h3 hbase (own_base hown)) h3 h4'
  exact Kd.reps_append (hr.imp_ (fun _ _ k => k.grow hE (Mv_grow (w1 := w1) h4'))) (hnr.imp_ (fun _ _ k => k.2.2.grow hE (Mv_grow (w1 := w1) h4')))
end
def RowE {α : Type} (d : Kd α) (M : Nat → Prop) (W : World) (A : Option Addr) (n : Nat) (xs : List α) : Prop :=
 xs.length = n ∧ n ≤ 9223372036854775807 ∧ (0 < n → ∃ ad inner, A = some ad ∧ Reps (fun x cs => (cs.length = d.sz ∧ ∀ u ∈ cs, u.oneCell' = true) ∧ Ever M W (fun W => d.K W x cs)) d.sz xs inner ∧ Ever M W (fun W => ∀ i u, inner[i]? = some u → W.cell? (ad.add i) = some u))
section
variable {α : Type} {d : Kd α} {M M' : Nat → Prop} {W w1 : World} {A : Option Addr} {n : Nat} {xs : List α}
theorem RowE.elems (h : RowE d M W A n xs) : ReadsRow (fun x cs => cs.length = d.sz ∧ (∀ u ∈ cs, u.oneCell' = true) ∧ Ever M W (fun W => d.K W x cs)) d.sz W A n xs := by
 refine ⟨h.1, h.2.1, fun hn => ?_⟩
 obtain ⟨ad, inner, rfl, h1, h2⟩ := h.2.2 hn
 refine ⟨ad, rfl, fun j p hj => ⟨(inner.drop (j * d.sz)).take d.sz, (h1.2 j p hj).1.1, ⟨(h1.2 j p hj).1.1, (h1.2 j p hj).1.2, (h1.2 j p hj).2⟩, fun i u hu => ?_⟩⟩
 ·refine h2.now _ u ?_
  rw [List.getElem?_take] at hu
  split at hu
  ·rw [List.getElem?_drop] at hu
   exact hu
  ·cases hu
theorem RowE.grow (h : RowE d M W A n xs) (k : Ext M W w1) (hM : ∀ k, M' k → M k ∨ W.heap.size ≤ k) : RowE d M' w1 A n xs := by
 refine ⟨h.1, h.2.1, fun hn => ?_⟩
 obtain ⟨ad, inner, rfl, h1, h2⟩ := h.2.2 hn
 exact ⟨ad, inner, rfl, h1.imp_ (fun _ _ a => ⟨a.1, a.2.grow k hM⟩), h2.grow k hM⟩
theorem RowE.step (h : RowE d M W A n xs) (k : Ext M W w1) : RowE d M w1 A n xs := h.grow k (fun _ a => .inl a)
theorem RowE.old (h : d.C W A n xs) (hM : ∀ k, M k → W.heap.size ≤ k) : RowE d M W A n xs := by
 refine ⟨h.1, h.2.1, fun hn => ?_⟩
 obtain ⟨ad, rfl, hc⟩ := h.2.2 hn
 obtain ⟨inner, hr, hcell⟩ := ReadsRow.inner_ h
 refine ⟨ad, inner, rfl, ?_, ?_⟩
 ·refine hr.imp_ (fun x cs hk => ⟨⟨d.K_len hk, d.K_one hk⟩, Ever.old hk (fun _ hb => d.K_below hb hk) hM⟩)
 ·exact Ever.old hcell (fun _ hb i u hu => pw_cell_below hb (hcell i u hu)) hM
end
def IsRow {α : Type} (d : Kd α) (M : Nat → Prop) (W : World) (v : Value) (xs : List α) : Prop := ∃ A c, v = .slice A xs.length c ∧ xs.length ≤ c ∧ RowE d M W A xs.length xs
theorem IsRow.grow {α : Type} {d : Kd α} {M M' : Nat → Prop} {W w1 : World} {v : Value} {xs : List α} (h : IsRow d M W v xs) (k : Ext M W w1) (hM : ∀ k, M' k → M k ∨ W.heap.size ≤ k) : IsRow d M' w1 v xs := by
 obtain ⟨A, c, e, hc, h⟩ := h
 exact ⟨A, c, e, hc, h.grow k hM⟩
theorem IsRow.step {α : Type} {d : Kd α} {M : Nat → Prop} {W w1 : World} {v : Value} {xs : List α} (h : IsRow d M W v xs) (k : Ext M W w1) : IsRow d M w1 v xs := h.grow k (fun _ a => .inl a)
end Go.Proofs.Ytocicifgglkaeaa.Core
end

section
set_option linter.unusedVariables false
set_option linter.unusedSimpArgs false
namespace Go.Proofs.Ytocicifgglkaeaa.Wk
open Go.RowKit Go.Proofs.YtocicifgglkaeaaW.PrintWords Go.Proofs.YtocicifgglkaeaaW.PrintLast Go.Proofs.YtocicifgglkaeaaW.PrintMore Go.Proofs.Ytocicifgglkaeaa.Core
end Go.Proofs.Ytocicifgglkaeaa.Wk
namespace Go.Proofs.Ytocicifgglkaeaa.Core
open Go.RowKit Go.Proofs.YtocicifgglkaeaaW.PrintWords Go.Proofs.YtocicifgglkaeaaW.PrintLast Go.Proofs.YtocicifgglkaeaaW.PrintMore
section
variable {M M' F : Nat → Prop} {w w1 w2 W W' : World} {P Q : World → Prop} {g : Nat}
theorem Ext.step (h : Ext M w W) (k : Ext F W W') (hF : ∀ k, F k → M k ∨ w.heap.size ≤ k) : Ext M w W' := h.grow k hF
theorem Ext.none_ (h : Below W.heap.size W W') : Ext (fun _ => False) W W' := Ext.of_below h
def Ms (gs : List Nat) (k : Nat) : Prop := k ∈ gs
theorem Ms.old {r : Nat} {gs : List Nat} : ∀ k, Ms gs k → Ms (r :: gs) k := fun _ h => List.mem_cons_of_mem _ h
theorem Ms.one {g : Nat} {gs : List Nat} (h : g ∈ gs) : ∀ k, k = g → Ms gs k := fun k e => by rw [e]; exact h
theorem C_cell {xs : List Int} {k : IntKind} {A : Option Addr} (h : Kd.C (Kd.int k) W A xs.length xs) (hn : 0 < xs.length) : ∃ ad, A = some ad ∧ ∀ j, j < xs.length → W.cell? (ad.add j) = some (.int k (xs.getD j 0)) := (Kd.reads_of_C h).2.2 hn
end
end Go.Proofs.Ytocicifgglkaeaa.Core
namespace Go.Proofs.Ytocicifgglkaeaa.Wk
open Go.RowKit Go.Proofs.YtocicifgglkaeaaW.PrintWords Go.Proofs.YtocicifgglkaeaaW.PrintLast Go.Proofs.YtocicifgglkaeaaW.PrintMore Go.Proofs.Ytocicifgglkaeaa.Core
section
variable {P : Program} {ops : Array Oper} {rest : List Oper} {o : Oper} {a : Act} {Q : Exit → Act → World → Prop} {W : World} {Kc : Act → World → Prop}
end
def keyIs (k : Int) (e : MapEntry) : Bool := match e.key with | .int .i64 a => a == k | _ => false
def mget (es : List MapEntry) (k : Int) : Option Value := (es.find? (keyIs k)).map (·.val)
def IntKeys (es : List MapEntry) : Prop := ∀ e ∈ es, ∃ a, e.key = .int .i64 a
structure IsMap (W : World) (m : Nat) (f : Int → Option Value) (n : Nat) : Prop where
 out : ∃ (es : Array MapEntry) (clock : Nat), W.heap[m]? = some (.map es clock) ∧ IntKeys es.toList ∧ es.size ≤ n ∧ ∀ k, mget es.toList k = f k
section
variable {P : Program} {W W' : World} {m n : Nat} {f : Int → Option Value}
end
section
variable {P : Program} {ops : Array Oper} {rest : List Oper} {o : Oper} {a : Act} {Q : Exit → Act → World → Prop} {W : World}
end
end Go.Proofs.Ytocicifgglkaeaa.Wk
end

section
namespace Go.Proofs.Ytocicifgglkaeaa.Chk
open Go.RowKit Go.Proofs.YtocicifgglkaeaaW.PrintWords Go.Proofs.YtocicifgglkaeaaW.PrintLast Go.Proofs.YtocicifgglkaeaaW.PrintMore Go.Proofs.Ytocicifgglkaeaa.Core Go.Proofs.Ytocicifgglkaeaa.Wk
set_option linter.unusedVariables false
set_option linter.unusedSimpArgs false
def wB (lo hi n : Int) : Bool := decide (lo ≤ n ∧ n ≤ hi)
def spB (a n : Int) : Bool := decide (0 ≤ a ∧ a ≤ 65535 ∧ a + n ≤ 65536)
def lowB (m : Int) (l : List Int) : Bool := decide (∀ x ∈ l, 0 ≤ x ∧ x ≤ m)
def smB (lo hi m : Int) (l : List Int) : Bool := wB lo hi l.length && lowB m l
theorem wB_yes {lo hi n : Int} (h0 : lo ≤ n) (h1 : n ≤ hi) : wB lo hi n = true := decide_eq_true ⟨h0, h1⟩
theorem wB_no {lo hi n : Int} (h : ¬ (lo ≤ n ∧ n ≤ hi)) : wB lo hi n = false := decide_eq_false h
theorem wB_iff {lo hi n : Int} : wB lo hi n = true ↔ lo ≤ n ∧ n ≤ hi := decide_eq_true_iff
theorem smB_len {lo hi m : Int} {l : List Int} (h : smB lo hi m l = true) : (l.length : Int) ≤ hi := by
 unfold smB at h
 rw [Bool.and_eq_true] at h
 exact (wB_iff.1 h.1).2
theorem low_nil (m : Int) : lowB m [] = true := decide_eq_true (fun x hx => by cases hx)
theorem low_take {m : Int} {l : List Int} {k : Nat} (hk : k < l.length) (h : lowB m (l.take k) = true) (hx : wB 0 m (l.getD k 0) = true) : lowB m (l.take (k + 1)) = true := by
 unfold lowB at h ⊢
 rw [decide_eq_true_eq] at h ⊢
 intro x hx'
 rw [List.take_succ_eq_append_getElem hk, List.mem_append] at hx'
 rcases hx' with hx' | hx'
 ·exact h x hx'
 ·have e : x = l[k] := by simpa using hx'
  rw [e]
  rw [List.getD_eq_getElem?_getD, List.getElem?_eq_getElem hk] at hx
  exact wB_iff.1 hx
theorem low_bad {m : Int} {l : List Int} {k : Nat} (hk : k < l.length) (hx : wB 0 m (l.getD k 0) = false) : lowB m l = false := by
 unfold lowB
 rw [decide_eq_false_iff_not]
 intro h
 have h1 := h l[k] (List.getElem_mem hk)
 rw [List.getD_eq_getElem?_getD, List.getElem?_eq_getElem hk] at hx
 have := wB_yes (lo := 0) (hi := m) h1.1 h1.2
 rw [Option.getD_some, this] at hx
 cases hx
set_option maxHeartbeats 4000000 in
set_option maxRecDepth 100000 in
theorem is_c (n : Int) (w : World) : Calls Try.prog 45 #[.int .i64 n] w fun e w' => e = .returned (.bool (wB 0 65535 n)) ∧ w = w' := by
 by_cases h0 : 0 ≤ n
 ·have t0 : decide (0 ≤ n) = true := decide_eq_true h0
  by_cases h1 : n ≤ 65535
  ·have t1 : decide (n ≤ 65535) = true := decide_eq_true h1
   rw [wB_yes h0 h1]; clear h0 h1
   go_enter Try.func45, Try.ntmps45
   go_wp2
   go_ret
   exact ⟨rfl, rfl⟩
  ·have t1 : decide (n ≤ 65535) = false := decide_eq_false h1
   rw [wB_no (fun a => h1 a.2)]; clear h0 h1
   go_enter Try.func45, Try.ntmps45
   go_wp2
   go_ret
   exact ⟨rfl, rfl⟩
 ·have t0 : decide (0 ≤ n) = false := decide_eq_false h0
  rw [wB_no (fun a => h0 a.1)]; clear h0
  go_enter Try.func45, Try.ntmps45
  go_wp2
  go_ret
  exact ⟨rfl, rfl⟩
set_option maxHeartbeats 4000000 in
set_option maxRecDepth 100000 in
theorem words_c (A : Option Addr) (c : Nat) (l : List Int) (w : World) (hV : Kd.C (Kd.int .i64) w A l.length l) : Calls Try.prog 68 #[.slice A l.length c] w fun e w' => e = .returned (.bool (lowB 65535 l)) ∧ w = w' := by
 have hmx := hV.2.1
 have HV := Aside0.mk hV
 clear hV
 go_enter Try.func68, Try.ntmps68
 go_wp2_with fail
 go_loop [3] (fun i => ∃ k : Nat, k ≤ l.length ∧ i = .int .i64 k ∧ Aside0 (lowB 65535 (l.take k) = true)) (fun i => l.length - (intOf i).toNat)
 case atStart => exact ⟨0, by omega, rfl, ⟨by rw [List.take_zero]; exact low_nil _⟩⟩
 case round =>
  obtain ⟨k, hk, rfl, HL⟩ := hrel
  by_cases hlt : k < l.length
  ·have t1 : decide (k < l.length) = true := decide_eq_true hlt
   have t2 : decide ((k : Int) < (l.length : Int)) = true := decide_eq_true (by omega)
   obtain ⟨ad, rfl, hc0⟩ := C_cell HV.out (by omega)
   have hc := hc0 k hlt
   clear hc0
   obtain ⟨x, hx⟩ : ∃ x, l.getD k 0 = x := ⟨_, rfl⟩
   rw [hx] at hc
   have HX := Aside0.mk hx
   clear hx
   have hkl := hlt
   clear hlt
   by_cases hb : wB 0 65535 x = true
   ·have HB := Aside0.mk hb
    skip
    go_wp2_with (go_at_call 45; refine (is_c _ _).mono ?_; rintro e w' ⟨rfl, rfl⟩)
    go_round
    case rel => exact ⟨k + 1, by omega, by go_num, ⟨low_take hkl HL.out (by rw [HX.out]; exact HB.out)⟩⟩
    case measure => simp [intOf]; omega
   ·have hb' : wB 0 65535 x = false := by simpa using hb
    have HN : Aside0 (lowB 65535 l = false) := ⟨low_bad hkl (by rw [HX.out]; exact hb')⟩
    clear hb
    go_wp2_with (go_at_call 45; refine (is_c _ _).mono ?_; rintro e w' ⟨rfl, rfl⟩)
    go_ret
    exact ⟨by rw [HN.out]; rfl, rfl⟩
  ·obtain rfl : k = l.length := by omega
   have t1 : decide (l.length < l.length) = false := decide_eq_false (by omega)
   have t2 : decide ((l.length : Int) < (l.length : Int)) = false := decide_eq_false (by omega)
   have hl := HL.out
   rw [List.take_of_length_le (Nat.le_refl _)] at hl
   have HL2 := Aside0.mk hl
   clear hl hlt
   go_wp2_with fail
   go_ret
   exact ⟨by rw [HL2.out]; rfl, rfl⟩
set_option maxHeartbeats 4000000 in
set_option maxRecDepth 100000 in
theorem bits_c (A : Option Addr) (c : Nat) (l : List Int) (w : World) (hV : Kd.C (Kd.int .i64) w A l.length l) : Calls Try.prog 67 #[.slice A l.length c] w fun e w' => e = .returned (.bool (lowB 1 l)) ∧ w = w' := by
 have hmx := hV.2.1
 have HV := Aside0.mk hV
 clear hV
 go_enter Try.func67, Try.ntmps67
 go_wp2_with fail
 go_loop [3] (fun i => ∃ k : Nat, k ≤ l.length ∧ i = .int .i64 k ∧ Aside0 (lowB 1 (l.take k) = true)) (fun i => l.length - (intOf i).toNat)
 case atStart => exact ⟨0, by omega, rfl, ⟨by rw [List.take_zero]; exact low_nil _⟩⟩
 case round =>
  obtain ⟨k, hk, rfl, HL⟩ := hrel
  by_cases hlt : k < l.length
  ·have t1 : decide (k < l.length) = true := decide_eq_true hlt
   have t2 : decide ((k : Int) < (l.length : Int)) = true := decide_eq_true (by omega)
   obtain ⟨ad, rfl, hc0⟩ := C_cell HV.out (by omega)
   have hc := hc0 k hlt
   clear hc0
   obtain ⟨x, hx⟩ : ∃ x, l.getD k 0 = x := ⟨_, rfl⟩
   rw [hx] at hc
   have HX := Aside0.mk hx
   clear hx
   have hkl := hlt
   clear hlt
   by_cases hb : wB 0 1 x = true
   ·have HB := Aside0.mk hb
    have hb2 := wB_iff.1 hb; clear hb; rcases (show x = 0 ∨ x = 1 by omega) with e | e <;> subst e <;> clear hb2 <;> (first | (have u0 : ((0 : Int) != 0) = false := rfl) | skip)
    all_goals
     go_wp2_with fail
     go_round
     case rel => exact ⟨k + 1, by omega, by go_num, ⟨low_take hkl HL.out (by rw [HX.out]; exact HB.out)⟩⟩
     case measure => simp [intOf]; omega
   ·have hb' : wB 0 1 x = false := by simpa using hb
    have HN : Aside0 (lowB 1 l = false) := ⟨low_bad hkl (by rw [HX.out]; exact hb')⟩
    have hb2 : ¬ (0 ≤ x ∧ x ≤ 1) := fun a => hb (wB_iff.2 a)
    have u0 : (x != 0) = true := bne_iff_ne.2 (by omega)
    have u1 : (x != 1) = true := bne_iff_ne.2 (by omega)
    clear hb hb' hb2
    go_wp2_with fail
    go_ret
    exact ⟨by rw [HN.out]; rfl, rfl⟩
  ·obtain rfl : k = l.length := by omega
   have t1 : decide (l.length < l.length) = false := decide_eq_false (by omega)
   have t2 : decide ((l.length : Int) < (l.length : Int)) = false := decide_eq_false (by omega)
   have hl := HL.out
   rw [List.take_of_length_le (Nat.le_refl _)] at hl
   have HL2 := Aside0.mk hl
   clear hl hlt
   go_wp2_with fail
   go_ret
   exact ⟨by rw [HL2.out]; rfl, rfl⟩
def chkB (f a c : Int) (v : List Int) (t n o : Int) : Bool :=
 if f = 1 ∨ f = 2 then t == 0 && n == 0 && o == 0 && (v.length : Int) == 0 && wB 1 2000 c && spB a c
 else if f = 3 ∨ f = 4 then t == 0 && n == 0 && o == 0 && (v.length : Int) == 0 && wB 1 125 c && spB a c
 else if f = 5 then t == 0 && n == 0 && o == 0 && c == 0 && smB 1 1 1 v && spB a 1
 else if f = 6 then t == 0 && n == 0 && o == 0 && c == 0 && smB 1 1 65535 v && spB a 1
 else if f = 15 then t == 0 && n == 0 && o == 0 && c == v.length && smB 1 1968 1 v && spB a v.length
 else if f = 16 then t == 0 && n == 0 && o == 0 && c == v.length && smB 1 123 65535 v && spB a v.length
 else if f = 22 then (v.length : Int) == 0 && t == 0 && c == 0 && spB a 1 && wB 0 65535 n && wB 0 65535 o
 else if f = 23 then n == 0 && o == 0 && wB 1 125 c && spB a c && smB 1 121 65535 v && spB t v.length
 else false
end Go.Proofs.Ytocicifgglkaeaa.Chk
end

section
namespace Go.Proofs.Ytocicifgglkaeaa.Chk
open Go.RowKit Go.Proofs.YtocicifgglkaeaaW.PrintWords Go.Proofs.YtocicifgglkaeaaW.PrintLast Go.Proofs.YtocicifgglkaeaaW.PrintMore Go.Proofs.Ytocicifgglkaeaa.Core Go.Proofs.Ytocicifgglkaeaa.Wk
set_option linter.unusedVariables false
set_option linter.unusedSimpArgs false
def bitB (f : Int) : Bool := decide (f = 1 ∨ f = 2 ∨ f = 5 ∨ f = 15)
set_option maxHeartbeats 4000000 in
set_option maxRecDepth 100000 in
theorem bit_c (f : Int) (w : World) : Calls Try.prog 27 #[.int .i64 f] w fun e w' => e = .returned (.bool (bitB f)) ∧ w = w' := by
 by_cases h0 : f = 1
 ·subst h0; rw [show bitB 1 = true from by decide]
  go_enter Try.func27, Try.ntmps27
  go_wp2
  go_ret
  exact ⟨rfl, rfl⟩
 by_cases h1 : f = 2
 ·subst h1; rw [show bitB 2 = true from by decide]
  go_enter Try.func27, Try.ntmps27
  go_wp2
  go_ret
  exact ⟨rfl, rfl⟩
 by_cases h2 : f = 5
 ·subst h2; rw [show bitB 5 = true from by decide]
  go_enter Try.func27, Try.ntmps27
  go_wp2
  go_ret
  exact ⟨rfl, rfl⟩
 by_cases h3 : f = 15
 ·subst h3; rw [show bitB 15 = true from by decide]
  go_enter Try.func27, Try.ntmps27
  go_wp2
  go_ret
  exact ⟨rfl, rfl⟩
 have hr : Aside0 (bitB f = false) := ⟨decide_eq_false (by omega)⟩
 rw [hr.out]
 have y0 : (f == 1) = false := beq_eq_false_iff_ne.2 h0
 have y1 : (f == 2) = false := beq_eq_false_iff_ne.2 h1
 have y2 : (f == 5) = false := beq_eq_false_iff_ne.2 h2
 have y3 : (f == 15) = false := beq_eq_false_iff_ne.2 h3
 clear h0 h1 h2 h3
 go_enter Try.func27, Try.ntmps27
 go_wp2
 go_ret
 exact ⟨rfl, rfl⟩
set_option maxHeartbeats 4000000 in
set_option maxRecDepth 100000 in
theorem refspan_c (a n : Int) (w : World) (h0 : -1000000 ≤ n) (h1 : n ≤ 1000000) : Calls Try.prog 43 #[.int .i64 a, .int .i64 n] w fun e w' => e = .returned (.bool (spB a n)) ∧ w = w' := by
 by_cases h2 : wB 0 65535 a = true
 ·have hb := wB_iff.1 h2
  have b0 := hb.1; have b1 := hb.2
  by_cases h3 : a + n ≤ 65536
  ·have t1 : decide (a + n ≤ 65536) = true := decide_eq_true h3
   have hr : Aside0 (spB a n = true) := ⟨decide_eq_true ⟨b0, b1, h3⟩⟩
   rw [hr.out]; clear h3 hb
   go_enter Try.func43, Try.ntmps43
   go_wp2_with (go_at_call 45; refine (is_c _ _).mono ?_; rintro e w' ⟨rfl, rfl⟩)
   go_ret
   exact ⟨rfl, rfl⟩
  ·have t1 : decide (a + n ≤ 65536) = false := decide_eq_false h3
   have hr : Aside0 (spB a n = false) := ⟨decide_eq_false (fun a => h3 a.2.2)⟩
   rw [hr.out]; clear h3 hb
   go_enter Try.func43, Try.ntmps43
   go_wp2_with (go_at_call 45; refine (is_c _ _).mono ?_; rintro e w' ⟨rfl, rfl⟩)
   go_ret
   exact ⟨rfl, rfl⟩
 ·have t0 : wB 0 65535 a = false := by simpa using h2
  have hr : Aside0 (spB a n = false) := ⟨decide_eq_false (fun a => h2 (wB_iff.2 ⟨a.1, a.2.1⟩))⟩
  rw [hr.out]; clear h2
  go_enter Try.func43, Try.ntmps43
  go_wp2_with (go_at_call 45; refine (is_c _ _).mono ?_; rintro e w' ⟨rfl, rfl⟩)
  go_ret
  exact ⟨rfl, rfl⟩
set_option maxHeartbeats 4000000 in
set_option maxRecDepth 100000 in
theorem vals_1 (f a c : Int) (A : Option Addr) (cc : Nat) (v : List Int) (t n o lo hi : Int) (w : World) (hV : Kd.C (Kd.int .i64) w A v.length v) (h : (v.length : Int) < lo) : Calls Try.prog 44 #[.agg #[.int .i64 f, .int .i64 a, .int .i64 c, .slice A v.length cc, .int .i64 t, .int .i64 n, .int .i64 o], .int .i64 lo, .int .i64 hi] w fun e w' => e = .returned (.bool (false)) ∧ Below w.heap.size w w' := by
 have HV := Aside0.mk hV; clear hV
 have t1 : decide ((v.length : Int) < lo) = true := decide_eq_true h
 clear h
 go_enter Try.func44, Try.ntmps44
 go_wp2_with (first | fail)
 go_ret
 exact ⟨rfl, by repeat (first | exact Below.refl _ _ | apply below_alloc)⟩
set_option maxHeartbeats 4000000 in
set_option maxRecDepth 100000 in
theorem vals_2 (f a c : Int) (A : Option Addr) (cc : Nat) (v : List Int) (t n o lo hi : Int) (w : World) (hV : Kd.C (Kd.int .i64) w A v.length v) (h0 : ¬ (v.length : Int) < lo) (h : hi < (v.length : Int)) : Calls Try.prog 44 #[.agg #[.int .i64 f, .int .i64 a, .int .i64 c, .slice A v.length cc, .int .i64 t, .int .i64 n, .int .i64 o], .int .i64 lo, .int .i64 hi] w fun e w' => e = .returned (.bool (false)) ∧ Below w.heap.size w w' := by
 have HV := Aside0.mk hV; clear hV
 have t1 : decide ((v.length : Int) < lo) = false := decide_eq_false h0; have t2 : decide (hi < (v.length : Int)) = true := decide_eq_true h
 clear h h0
 go_enter Try.func44, Try.ntmps44
 go_wp2_with (first | fail)
 go_ret
 exact ⟨rfl, by repeat (first | exact Below.refl _ _ | apply below_alloc)⟩
set_option maxHeartbeats 4000000 in
set_option maxRecDepth 100000 in
theorem vals_3 (f a c : Int) (A : Option Addr) (cc : Nat) (v : List Int) (t n o lo hi : Int) (w : World) (hV : Kd.C (Kd.int .i64) w A v.length v) (h0 : ¬ (v.length : Int) < lo) (h : ¬ hi < (v.length : Int)) (hbt : bitB f = true) : Calls Try.prog 44 #[.agg #[.int .i64 f, .int .i64 a, .int .i64 c, .slice A v.length cc, .int .i64 t, .int .i64 n, .int .i64 o], .int .i64 lo, .int .i64 hi] w fun e w' => e = .returned (.bool (lowB 1 v)) ∧ Below w.heap.size w w' := by
 have HV := Aside0.mk hV; clear hV
 have t1 : decide ((v.length : Int) < lo) = false := decide_eq_false h0; have t2 : decide (hi < (v.length : Int)) = false := decide_eq_false h; have HBT := Aside0.mk hbt
 clear h h0 hbt
 go_enter Try.func44, Try.ntmps44
 go_wp2_with (first | (go_at_call 27; refine (bit_c _ _).mono ?_; rw [HBT.out]; rintro e w' ⟨rfl, rfl⟩) | (go_at_call 67; refine (bits_c A cc v _ ?hv).mono ?_; (case hv => (with_reducible repeat (first | refine Kd.C_alloc ?_ _ | refine Kd.C_drewN ?_ _ | refine Kd.C_drew ?_)); exact HV.out); rintro e w' ⟨rfl, rfl⟩))
 go_ret
 exact ⟨rfl, by repeat (first | exact Below.refl _ _ | apply below_alloc)⟩
set_option maxHeartbeats 4000000 in
set_option maxRecDepth 100000 in
theorem vals_4 (f a c : Int) (A : Option Addr) (cc : Nat) (v : List Int) (t n o lo hi : Int) (w : World) (hV : Kd.C (Kd.int .i64) w A v.length v) (h0 : ¬ (v.length : Int) < lo) (h : ¬ hi < (v.length : Int)) (hbt : bitB f = false) : Calls Try.prog 44 #[.agg #[.int .i64 f, .int .i64 a, .int .i64 c, .slice A v.length cc, .int .i64 t, .int .i64 n, .int .i64 o], .int .i64 lo, .int .i64 hi] w fun e w' => e = .returned (.bool (lowB 65535 v)) ∧ Below w.heap.size w w' := by
 have HV := Aside0.mk hV; clear hV
 have t1 : decide ((v.length : Int) < lo) = false := decide_eq_false h0; have t2 : decide (hi < (v.length : Int)) = false := decide_eq_false h; have HBT := Aside0.mk hbt
 clear h h0 hbt
 go_enter Try.func44, Try.ntmps44
 go_wp2_with (first | (go_at_call 27; refine (bit_c _ _).mono ?_; rw [HBT.out]; rintro e w' ⟨rfl, rfl⟩) | (go_at_call 68; refine (words_c A cc v _ ?hv).mono ?_; (case hv => (with_reducible repeat (first | refine Kd.C_alloc ?_ _ | refine Kd.C_drewN ?_ _ | refine Kd.C_drew ?_)); exact HV.out); rintro e w' ⟨rfl, rfl⟩))
 go_ret
 exact ⟨rfl, by repeat (first | exact Below.refl _ _ | apply below_alloc)⟩
theorem vals_c (f a c : Int) (A : Option Addr) (cc : Nat) (v : List Int) (t n o lo hi : Int) (w : World) (hV : Kd.C (Kd.int .i64) w A v.length v) {m : Int} (hm : (if bitB f = true then 1 else 65535) = m) : Calls Try.prog 44 #[.agg #[.int .i64 f, .int .i64 a, .int .i64 c, .slice A v.length cc, .int .i64 t, .int .i64 n, .int .i64 o], .int .i64 lo, .int .i64 hi] w fun e w' => e = .returned (.bool (smB lo hi m v)) ∧ Below w.heap.size w w' := by
 unfold smB
 by_cases h0 : (v.length : Int) < lo
 ·rw [wB_no (fun a => by omega), Bool.false_and]; exact vals_1 f a c A cc v t n o lo hi w hV h0
 by_cases h1 : hi < (v.length : Int)
 ·rw [wB_no (fun a => by omega), Bool.false_and]; exact vals_2 f a c A cc v t n o lo hi w hV h0 h1
 rw [wB_yes (by omega) (by omega), Bool.true_and]
 cases hb : bitB f with
 | true => rw [hb, if_pos rfl] at hm; subst hm; exact vals_3 f a c A cc v t n o lo hi w hV h0 h1 hb
 | false => rw [hb, if_neg (by simp)] at hm; subst hm; exact vals_4 f a c A cc v t n o lo hi w hV h0 h1 hb
theorem cells7 {w : World} {g : Nat} {v0 v1 v2 v3 v4 v5 v6 : Value} {T : TypeId} (h : w.heap[g]? = some (.cells #[v0, v1, v2, v3, v4, v5, v6] T (0, 0))) : w.cell? ⟨g, 0, none⟩ = some v0 ∧ w.cell? ⟨g, 1, none⟩ = some v1 ∧ w.cell? ⟨g, 2, none⟩ = some v2 ∧ w.cell? ⟨g, 3, none⟩ = some v3 ∧ w.cell? ⟨g, 4, none⟩ = some v4 ∧ w.cell? ⟨g, 5, none⟩ = some v5 ∧ w.cell? ⟨g, 6, none⟩ = some v6 :=
 ⟨(blk_cell h 0).trans rfl, (blk_cell h 1).trans rfl, (blk_cell h 2).trans rfl, (blk_cell h 3).trans rfl, (blk_cell h 4).trans rfl, (blk_cell h 5).trans rfl, (blk_cell h 6).trans rfl⟩
end Go.Proofs.Ytocicifgglkaeaa.Chk
end

section
namespace Go.Proofs.Ytocicifgglkaeaa.Chk
open Go.RowKit Go.Proofs.YtocicifgglkaeaaW.PrintWords Go.Proofs.YtocicifgglkaeaaW.PrintLast Go.Proofs.YtocicifgglkaeaaW.PrintMore Go.Proofs.Ytocicifgglkaeaa.Core Go.Proofs.Ytocicifgglkaeaa.Wk
set_option linter.unusedVariables false
set_option linter.unusedSimpArgs false
set_option maxHeartbeats 4000000 in
set_option maxRecDepth 100000 in
theorem may_1 (a c : Int) (A : Option Addr) (cc : Nat) (v : List Int) (t n o : Int) (w : World) (hV : Kd.C (Kd.int .i64) w A v.length v) : Calls Try.prog 20 #[.agg #[.int .i64 1, .int .i64 a, .int .i64 c, .slice A v.length cc, .int .i64 t, .int .i64 n, .int .i64 o]] w fun e w' => e = .returned (.bool (chkB 1 a c v t n o)) ∧ Below w.heap.size w w' := by
 have HV := Aside0.mk hV; clear hV
 by_cases hz0 : (n == 0) = true
 ·have z0 : (n == 0) = true := hz0; clear hz0
  by_cases hz1 : (o == 0) = true
  ·have z1 : (o == 0) = true := hz1; clear hz1
   by_cases hz2 : ((v.length : Int) == 0) = true
   ·have z2 : ((v.length : Int) == 0) = true := hz2; clear hz2
    by_cases hz3 : (t == 0) = true
    ·have z3 : (t == 0) = true := hz3; clear hz3
     by_cases hz4 : decide (1 ≤ c) = true
     ·have z4 : decide (1 ≤ c) = true := hz4; clear hz4; have pz4 := of_decide_eq_true z4
      by_cases hz5 : decide (c ≤ 2000) = true
      ·have z5 : decide (c ≤ 2000) = true := hz5; clear hz5; have pz5 := of_decide_eq_true z5
       by_cases hz6 : spB a c = true
       ·have z6 : spB a c = true := hz6; clear hz6
        have HR : Aside0 (chkB 1 a c v t n o = true) := ⟨by simp_all [chkB, wB] <;> (intros; omega)⟩
        rw [HR.out]
        go_enter Try.func20, Try.ntmps20
        go_wp2_with (first | ((with_reducible refine gate_dst (N := 1) rfl ?_); refine bx_ (N := 1) (cs := #[.int .i64 1, .int .i64 a, .int .i64 c, .slice A v.length cc, .int .i64 t, .int .i64 n, .int .i64 o]) (t := 24) ?_; intro g hg w1 hb HB; have XB := Aside0.mk HB; have BK := Aside0.mk hb; obtain ⟨k0, k1, k2, k3, k4, k5, k6⟩ := cells7 hb; clear hg hb HB) | (go_at_call 45; refine (is_c _ _).mono ?_; rintro e w' ⟨rfl, rfl⟩) | (go_at_call 43; refine (refspan_c _ _ _ (by omega) (by omega)).mono ?_; rintro e w' ⟨rfl, rfl⟩))
        go_ret
        exact ⟨rfl, XB.out⟩
       ·have z6 : spB a c = false := by simpa using hz6
        clear hz6
        have HR : Aside0 (chkB 1 a c v t n o = false) := ⟨by simp_all [chkB, wB] <;> (intros; omega)⟩
        rw [HR.out]
        go_enter Try.func20, Try.ntmps20
        go_wp2_with (first | ((with_reducible refine gate_dst (N := 1) rfl ?_); refine bx_ (N := 1) (cs := #[.int .i64 1, .int .i64 a, .int .i64 c, .slice A v.length cc, .int .i64 t, .int .i64 n, .int .i64 o]) (t := 24) ?_; intro g hg w1 hb HB; have XB := Aside0.mk HB; have BK := Aside0.mk hb; obtain ⟨k0, k1, k2, k3, k4, k5, k6⟩ := cells7 hb; clear hg hb HB) | (go_at_call 45; refine (is_c _ _).mono ?_; rintro e w' ⟨rfl, rfl⟩) | (go_at_call 43; refine (refspan_c _ _ _ (by omega) (by omega)).mono ?_; rintro e w' ⟨rfl, rfl⟩))
        go_ret
        exact ⟨rfl, XB.out⟩
      ·have z5 : decide (c ≤ 2000) = false := by simpa using hz5
       clear hz5
       have HR : Aside0 (chkB 1 a c v t n o = false) := ⟨by simp_all [chkB, wB] <;> (intros; omega)⟩
       rw [HR.out]
       go_enter Try.func20, Try.ntmps20
       go_wp2_with (first | ((with_reducible refine gate_dst (N := 1) rfl ?_); refine bx_ (N := 1) (cs := #[.int .i64 1, .int .i64 a, .int .i64 c, .slice A v.length cc, .int .i64 t, .int .i64 n, .int .i64 o]) (t := 24) ?_; intro g hg w1 hb HB; have XB := Aside0.mk HB; have BK := Aside0.mk hb; obtain ⟨k0, k1, k2, k3, k4, k5, k6⟩ := cells7 hb; clear hg hb HB) | (go_at_call 45; refine (is_c _ _).mono ?_; rintro e w' ⟨rfl, rfl⟩) | (go_at_call 43; refine (refspan_c _ _ _ (by omega) (by omega)).mono ?_; rintro e w' ⟨rfl, rfl⟩))
       go_ret
       exact ⟨rfl, XB.out⟩
     ·have z4 : decide (1 ≤ c) = false := by simpa using hz4
      clear hz4
      have HR : Aside0 (chkB 1 a c v t n o = false) := ⟨by simp_all [chkB, wB] <;> (intros; omega)⟩
      rw [HR.out]
      go_enter Try.func20, Try.ntmps20
      go_wp2_with (first | ((with_reducible refine gate_dst (N := 1) rfl ?_); refine bx_ (N := 1) (cs := #[.int .i64 1, .int .i64 a, .int .i64 c, .slice A v.length cc, .int .i64 t, .int .i64 n, .int .i64 o]) (t := 24) ?_; intro g hg w1 hb HB; have XB := Aside0.mk HB; have BK := Aside0.mk hb; obtain ⟨k0, k1, k2, k3, k4, k5, k6⟩ := cells7 hb; clear hg hb HB) | (go_at_call 45; refine (is_c _ _).mono ?_; rintro e w' ⟨rfl, rfl⟩) | (go_at_call 43; refine (refspan_c _ _ _ (by omega) (by omega)).mono ?_; rintro e w' ⟨rfl, rfl⟩))
      go_ret
      exact ⟨rfl, XB.out⟩
    ·have z3 : (t == 0) = false := by simpa using hz3
     clear hz3
     have HR : Aside0 (chkB 1 a c v t n o = false) := ⟨by simp_all [chkB, wB] <;> (intros; omega)⟩
     rw [HR.out]
     go_enter Try.func20, Try.ntmps20
     go_wp2_with (first | ((with_reducible refine gate_dst (N := 1) rfl ?_); refine bx_ (N := 1) (cs := #[.int .i64 1, .int .i64 a, .int .i64 c, .slice A v.length cc, .int .i64 t, .int .i64 n, .int .i64 o]) (t := 24) ?_; intro g hg w1 hb HB; have XB := Aside0.mk HB; have BK := Aside0.mk hb; obtain ⟨k0, k1, k2, k3, k4, k5, k6⟩ := cells7 hb; clear hg hb HB) | (go_at_call 45; refine (is_c _ _).mono ?_; rintro e w' ⟨rfl, rfl⟩) | (go_at_call 43; refine (refspan_c _ _ _ (by omega) (by omega)).mono ?_; rintro e w' ⟨rfl, rfl⟩))
     go_ret
     exact ⟨rfl, XB.out⟩
   ·have z2 : ((v.length : Int) == 0) = false := by simpa using hz2
    clear hz2
    have HR : Aside0 (chkB 1 a c v t n o = false) := ⟨by simp_all [chkB, wB] <;> (intros; omega)⟩
    rw [HR.out]
    go_enter Try.func20, Try.ntmps20
    go_wp2_with (first | ((with_reducible refine gate_dst (N := 1) rfl ?_); refine bx_ (N := 1) (cs := #[.int .i64 1, .int .i64 a, .int .i64 c, .slice A v.length cc, .int .i64 t, .int .i64 n, .int .i64 o]) (t := 24) ?_; intro g hg w1 hb HB; have XB := Aside0.mk HB; have BK := Aside0.mk hb; obtain ⟨k0, k1, k2, k3, k4, k5, k6⟩ := cells7 hb; clear hg hb HB) | (go_at_call 45; refine (is_c _ _).mono ?_; rintro e w' ⟨rfl, rfl⟩) | (go_at_call 43; refine (refspan_c _ _ _ (by omega) (by omega)).mono ?_; rintro e w' ⟨rfl, rfl⟩))
    go_ret
    exact ⟨rfl, XB.out⟩
  ·have z1 : (o == 0) = false := by simpa using hz1
   clear hz1
   by_cases hz2 : ((v.length : Int) == 0) = true
   ·have z2 : ((v.length : Int) == 0) = true := hz2; clear hz2
    have HR : Aside0 (chkB 1 a c v t n o = false) := ⟨by simp_all [chkB, wB] <;> (intros; omega)⟩
    rw [HR.out]
    go_enter Try.func20, Try.ntmps20
    go_wp2_with (first | ((with_reducible refine gate_dst (N := 1) rfl ?_); refine bx_ (N := 1) (cs := #[.int .i64 1, .int .i64 a, .int .i64 c, .slice A v.length cc, .int .i64 t, .int .i64 n, .int .i64 o]) (t := 24) ?_; intro g hg w1 hb HB; have XB := Aside0.mk HB; have BK := Aside0.mk hb; obtain ⟨k0, k1, k2, k3, k4, k5, k6⟩ := cells7 hb; clear hg hb HB) | (go_at_call 45; refine (is_c _ _).mono ?_; rintro e w' ⟨rfl, rfl⟩) | (go_at_call 43; refine (refspan_c _ _ _ (by omega) (by omega)).mono ?_; rintro e w' ⟨rfl, rfl⟩))
    go_ret
    exact ⟨rfl, XB.out⟩
   ·have z2 : ((v.length : Int) == 0) = false := by simpa using hz2
    clear hz2
    have HR : Aside0 (chkB 1 a c v t n o = false) := ⟨by simp_all [chkB, wB] <;> (intros; omega)⟩
    rw [HR.out]
    go_enter Try.func20, Try.ntmps20
    go_wp2_with (first | ((with_reducible refine gate_dst (N := 1) rfl ?_); refine bx_ (N := 1) (cs := #[.int .i64 1, .int .i64 a, .int .i64 c, .slice A v.length cc, .int .i64 t, .int .i64 n, .int .i64 o]) (t := 24) ?_; intro g hg w1 hb HB; have XB := Aside0.mk HB; have BK := Aside0.mk hb; obtain ⟨k0, k1, k2, k3, k4, k5, k6⟩ := cells7 hb; clear hg hb HB) | (go_at_call 45; refine (is_c _ _).mono ?_; rintro e w' ⟨rfl, rfl⟩) | (go_at_call 43; refine (refspan_c _ _ _ (by omega) (by omega)).mono ?_; rintro e w' ⟨rfl, rfl⟩))
    go_ret
    exact ⟨rfl, XB.out⟩
 ·have z0 : (n == 0) = false := by simpa using hz0
  clear hz0
  by_cases hz1 : ((v.length : Int) == 0) = true
  ·have z1 : ((v.length : Int) == 0) = true := hz1; clear hz1
   have HR : Aside0 (chkB 1 a c v t n o = false) := ⟨by simp_all [chkB, wB] <;> (intros; omega)⟩
   rw [HR.out]
   go_enter Try.func20, Try.ntmps20
   go_wp2_with (first | ((with_reducible refine gate_dst (N := 1) rfl ?_); refine bx_ (N := 1) (cs := #[.int .i64 1, .int .i64 a, .int .i64 c, .slice A v.length cc, .int .i64 t, .int .i64 n, .int .i64 o]) (t := 24) ?_; intro g hg w1 hb HB; have XB := Aside0.mk HB; have BK := Aside0.mk hb; obtain ⟨k0, k1, k2, k3, k4, k5, k6⟩ := cells7 hb; clear hg hb HB) | (go_at_call 45; refine (is_c _ _).mono ?_; rintro e w' ⟨rfl, rfl⟩) | (go_at_call 43; refine (refspan_c _ _ _ (by omega) (by omega)).mono ?_; rintro e w' ⟨rfl, rfl⟩))
   go_ret
   exact ⟨rfl, XB.out⟩
  ·have z1 : ((v.length : Int) == 0) = false := by simpa using hz1
   clear hz1
   have HR : Aside0 (chkB 1 a c v t n o = false) := ⟨by simp_all [chkB, wB] <;> (intros; omega)⟩
   rw [HR.out]
   go_enter Try.func20, Try.ntmps20
   go_wp2_with (first | ((with_reducible refine gate_dst (N := 1) rfl ?_); refine bx_ (N := 1) (cs := #[.int .i64 1, .int .i64 a, .int .i64 c, .slice A v.length cc, .int .i64 t, .int .i64 n, .int .i64 o]) (t := 24) ?_; intro g hg w1 hb HB; have XB := Aside0.mk HB; have BK := Aside0.mk hb; obtain ⟨k0, k1, k2, k3, k4, k5, k6⟩ := cells7 hb; clear hg hb HB) | (go_at_call 45; refine (is_c _ _).mono ?_; rintro e w' ⟨rfl, rfl⟩) | (go_at_call 43; refine (refspan_c _ _ _ (by omega) (by omega)).mono ?_; rintro e w' ⟨rfl, rfl⟩))
   go_ret
   exact ⟨rfl, XB.out⟩
set_option maxHeartbeats 4000000 in
set_option maxRecDepth 100000 in
theorem may_2 (a c : Int) (A : Option Addr) (cc : Nat) (v : List Int) (t n o : Int) (w : World) (hV : Kd.C (Kd.int .i64) w A v.length v) : Calls Try.prog 20 #[.agg #[.int .i64 2, .int .i64 a, .int .i64 c, .slice A v.length cc, .int .i64 t, .int .i64 n, .int .i64 o]] w fun e w' => e = .returned (.bool (chkB 2 a c v t n o)) ∧ Below w.heap.size w w' := by
 have HV := Aside0.mk hV; clear hV
 by_cases hz0 : (n == 0) = true
 ·have z0 : (n == 0) = true := hz0; clear hz0
  by_cases hz1 : (o == 0) = true
  ·have z1 : (o == 0) = true := hz1; clear hz1
   by_cases hz2 : ((v.length : Int) == 0) = true
   ·have z2 : ((v.length : Int) == 0) = true := hz2; clear hz2
    by_cases hz3 : (t == 0) = true
    ·have z3 : (t == 0) = true := hz3; clear hz3
     by_cases hz4 : decide (1 ≤ c) = true
     ·have z4 : decide (1 ≤ c) = true := hz4; clear hz4; have pz4 := of_decide_eq_true z4
      by_cases hz5 : decide (c ≤ 2000) = true
      ·have z5 : decide (c ≤ 2000) = true := hz5; clear hz5; have pz5 := of_decide_eq_true z5
       by_cases hz6 : spB a c = true
       ·have z6 : spB a c = true := hz6; clear hz6
        have HR : Aside0 (chkB 2 a c v t n o = true) := ⟨by simp_all [chkB, wB] <;> (intros; omega)⟩
        rw [HR.out]
        go_enter Try.func20, Try.ntmps20
        go_wp2_with (first | ((with_reducible refine gate_dst (N := 1) rfl ?_); refine bx_ (N := 1) (cs := #[.int .i64 2, .int .i64 a, .int .i64 c, .slice A v.length cc, .int .i64 t, .int .i64 n, .int .i64 o]) (t := 24) ?_; intro g hg w1 hb HB; have XB := Aside0.mk HB; have BK := Aside0.mk hb; obtain ⟨k0, k1, k2, k3, k4, k5, k6⟩ := cells7 hb; clear hg hb HB) | (go_at_call 45; refine (is_c _ _).mono ?_; rintro e w' ⟨rfl, rfl⟩) | (go_at_call 43; refine (refspan_c _ _ _ (by omega) (by omega)).mono ?_; rintro e w' ⟨rfl, rfl⟩))
        go_ret
        exact ⟨rfl, XB.out⟩
       ·have z6 : spB a c = false := by simpa using hz6
        clear hz6
        have HR : Aside0 (chkB 2 a c v t n o = false) := ⟨by simp_all [chkB, wB] <;> (intros; omega)⟩
        rw [HR.out]
        go_enter Try.func20, Try.ntmps20
        go_wp2_with (first | ((with_reducible refine gate_dst (N := 1) rfl ?_); refine bx_ (N := 1) (cs := #[.int .i64 2, .int .i64 a, .int .i64 c, .slice A v.length cc, .int .i64 t, .int .i64 n, .int .i64 o]) (t := 24) ?_; intro g hg w1 hb HB; have XB := Aside0.mk HB; have BK := Aside0.mk hb; obtain ⟨k0, k1, k2, k3, k4, k5, k6⟩ := cells7 hb; clear hg hb HB) | (go_at_call 45; refine (is_c _ _).mono ?_; rintro e w' ⟨rfl, rfl⟩) | (go_at_call 43; refine (refspan_c _ _ _ (by omega) (by omega)).mono ?_; rintro e w' ⟨rfl, rfl⟩))
        go_ret
        exact ⟨rfl, XB.out⟩
      ·have z5 : decide (c ≤ 2000) = false := by simpa using hz5
       clear hz5
       have HR : Aside0 (chkB 2 a c v t n o = false) := ⟨by simp_all [chkB, wB] <;> (intros; omega)⟩
       rw [HR.out]
       go_enter Try.func20, Try.ntmps20
       go_wp2_with (first | ((with_reducible refine gate_dst (N := 1) rfl ?_); refine bx_ (N := 1) (cs := #[.int .i64 2, .int .i64 a, .int .i64 c, .slice A v.length cc, .int .i64 t, .int .i64 n, .int .i64 o]) (t := 24) ?_; intro g hg w1 hb HB; have XB := Aside0.mk HB; have BK := Aside0.mk hb; obtain ⟨k0, k1, k2, k3, k4, k5, k6⟩ := cells7 hb; clear hg hb HB) | (go_at_call 45; refine (is_c _ _).mono ?_; rintro e w' ⟨rfl, rfl⟩) | (go_at_call 43; refine (refspan_c _ _ _ (by omega) (by omega)).mono ?_; rintro e w' ⟨rfl, rfl⟩))
       go_ret
       exact ⟨rfl, XB.out⟩
     ·have z4 : decide (1 ≤ c) = false := by simpa using hz4
      clear hz4
      have HR : Aside0 (chkB 2 a c v t n o = false) := ⟨by simp_all [chkB, wB] <;> (intros; omega)⟩
      rw [HR.out]
      go_enter Try.func20, Try.ntmps20
      go_wp2_with (first | ((with_reducible refine gate_dst (N := 1) rfl ?_); refine bx_ (N := 1) (cs := #[.int .i64 2, .int .i64 a, .int .i64 c, .slice A v.length cc, .int .i64 t, .int .i64 n, .int .i64 o]) (t := 24) ?_; intro g hg w1 hb HB; have XB := Aside0.mk HB; have BK := Aside0.mk hb; obtain ⟨k0, k1, k2, k3, k4, k5, k6⟩ := cells7 hb; clear hg hb HB) | (go_at_call 45; refine (is_c _ _).mono ?_; rintro e w' ⟨rfl, rfl⟩) | (go_at_call 43; refine (refspan_c _ _ _ (by omega) (by omega)).mono ?_; rintro e w' ⟨rfl, rfl⟩))
      go_ret
      exact ⟨rfl, XB.out⟩
    ·have z3 : (t == 0) = false := by simpa using hz3
     clear hz3
     have HR : Aside0 (chkB 2 a c v t n o = false) := ⟨by simp_all [chkB, wB] <;> (intros; omega)⟩
     rw [HR.out]
     go_enter Try.func20, Try.ntmps20
     go_wp2_with (first | ((with_reducible refine gate_dst (N := 1) rfl ?_); refine bx_ (N := 1) (cs := #[.int .i64 2, .int .i64 a, .int .i64 c, .slice A v.length cc, .int .i64 t, .int .i64 n, .int .i64 o]) (t := 24) ?_; intro g hg w1 hb HB; have XB := Aside0.mk HB; have BK := Aside0.mk hb; obtain ⟨k0, k1, k2, k3, k4, k5, k6⟩ := cells7 hb; clear hg hb HB) | (go_at_call 45; refine (is_c _ _).mono ?_; rintro e w' ⟨rfl, rfl⟩) | (go_at_call 43; refine (refspan_c _ _ _ (by omega) (by omega)).mono ?_; rintro e w' ⟨rfl, rfl⟩))
     go_ret
     exact ⟨rfl, XB.out⟩
   ·have z2 : ((v.length : Int) == 0) = false := by simpa using hz2
    clear hz2
    have HR : Aside0 (chkB 2 a c v t n o = false) := ⟨by simp_all [chkB, wB] <;> (intros; omega)⟩
    rw [HR.out]
    go_enter Try.func20, Try.ntmps20
    go_wp2_with (first | ((with_reducible refine gate_dst (N := 1) rfl ?_); refine bx_ (N := 1) (cs := #[.int .i64 2, .int .i64 a, .int .i64 c, .slice A v.length cc, .int .i64 t, .int .i64 n, .int .i64 o]) (t := 24) ?_; intro g hg w1 hb HB; have XB := Aside0.mk HB; have BK := Aside0.mk hb; obtain ⟨k0, k1, k2, k3, k4, k5, k6⟩ := cells7 hb; clear hg hb HB) | (go_at_call 45; refine (is_c _ _).mono ?_; rintro e w' ⟨rfl, rfl⟩) | (go_at_call 43; refine (refspan_c _ _ _ (by omega) (by omega)).mono ?_; rintro e w' ⟨rfl, rfl⟩))
    go_ret
    exact ⟨rfl, XB.out⟩
  ·have z1 : (o == 0) = false := by simpa using hz1
   clear hz1
   by_cases hz2 : ((v.length : Int) == 0) = true
   ·have z2 : ((v.length : Int) == 0) = true := hz2; clear hz2
    have HR : Aside0 (chkB 2 a c v t n o = false) := ⟨by simp_all [chkB, wB] <;> (intros; omega)⟩
    rw [HR.out]
    go_enter Try.func20, Try.ntmps20
    go_wp2_with (first | ((with_reducible refine gate_dst (N := 1) rfl ?_); refine bx_ (N := 1) (cs := #[.int .i64 2, .int .i64 a, .int .i64 c, .slice A v.length cc, .int .i64 t, .int .i64 n, .int .i64 o]) (t := 24) ?_; intro g hg w1 hb HB; have XB := Aside0.mk HB; have BK := Aside0.mk hb; obtain ⟨k0, k1, k2, k3, k4, k5, k6⟩ := cells7 hb; clear hg hb HB) | (go_at_call 45; refine (is_c _ _).mono ?_; rintro e w' ⟨rfl, rfl⟩) | (go_at_call 43; refine (refspan_c _ _ _ (by omega) (by omega)).mono ?_; rintro e w' ⟨rfl, rfl⟩))
    go_ret
    exact ⟨rfl, XB.out⟩
   ·have z2 : ((v.length : Int) == 0) = false := by simpa using hz2
    clear hz2
    have HR : Aside0 (chkB 2 a c v t n o = false) := ⟨by simp_all [chkB, wB] <;> (intros; omega)⟩
    rw [HR.out]
    go_enter Try.func20, Try.ntmps20
    go_wp2_with (first | ((with_reducible refine gate_dst (N := 1) rfl ?_); refine bx_ (N := 1) (cs := #[.int .i64 2, .int .i64 a, .int .i64 c, .slice A v.length cc, .int .i64 t, .int .i64 n, .int .i64 o]) (t := 24) ?_; intro g hg w1 hb HB; have XB := Aside0.mk HB; have BK := Aside0.mk hb; obtain ⟨k0, k1, k2, k3, k4, k5, k6⟩ := cells7 hb; clear hg hb HB) | (go_at_call 45; refine (is_c _ _).mono ?_; rintro e w' ⟨rfl, rfl⟩) | (go_at_call 43; refine (refspan_c _ _ _ (by omega) (by omega)).mono ?_; rintro e w' ⟨rfl, rfl⟩))
    go_ret
    exact ⟨rfl, XB.out⟩
 ·have z0 : (n == 0) = false := by simpa using hz0
  clear hz0
  by_cases hz1 : ((v.length : Int) == 0) = true
  ·have z1 : ((v.length : Int) == 0) = true := hz1; clear hz1
   have HR : Aside0 (chkB 2 a c v t n o = false) := ⟨by simp_all [chkB, wB] <;> (intros; omega)⟩
   rw [HR.out]
   go_enter Try.func20, Try.ntmps20
   go_wp2_with (first | ((with_reducible refine gate_dst (N := 1) rfl ?_); refine bx_ (N := 1) (cs := #[.int .i64 2, .int .i64 a, .int .i64 c, .slice A v.length cc, .int .i64 t, .int .i64 n, .int .i64 o]) (t := 24) ?_; intro g hg w1 hb HB; have XB := Aside0.mk HB; have BK := Aside0.mk hb; obtain ⟨k0, k1, k2, k3, k4, k5, k6⟩ := cells7 hb; clear hg hb HB) | (go_at_call 45; refine (is_c _ _).mono ?_; rintro e w' ⟨rfl, rfl⟩) | (go_at_call 43; refine (refspan_c _ _ _ (by omega) (by omega)).mono ?_; rintro e w' ⟨rfl, rfl⟩))
   go_ret
   exact ⟨rfl, XB.out⟩
  ·have z1 : ((v.length : Int) == 0) = false := by simpa using hz1
   clear hz1
   have HR : Aside0 (chkB 2 a c v t n o = false) := ⟨by simp_all [chkB, wB] <;> (intros; omega)⟩
   rw [HR.out]
   go_enter Try.func20, Try.ntmps20
   go_wp2_with (first | ((with_reducible refine gate_dst (N := 1) rfl ?_); refine bx_ (N := 1) (cs := #[.int .i64 2, .int .i64 a, .int .i64 c, .slice A v.length cc, .int .i64 t, .int .i64 n, .int .i64 o]) (t := 24) ?_; intro g hg w1 hb HB; have XB := Aside0.mk HB; have BK := Aside0.mk hb; obtain ⟨k0, k1, k2, k3, k4, k5, k6⟩ := cells7 hb; clear hg hb HB) | (go_at_call 45; refine (is_c _ _).mono ?_; rintro e w' ⟨rfl, rfl⟩) | (go_at_call 43; refine (refspan_c _ _ _ (by omega) (by omega)).mono ?_; rintro e w' ⟨rfl, rfl⟩))
   go_ret
   exact ⟨rfl, XB.out⟩
end Go.Proofs.Ytocicifgglkaeaa.Chk
end

section
namespace Go.Proofs.Ytocicifgglkaeaa.Chk
open Go.RowKit Go.Proofs.YtocicifgglkaeaaW.PrintWords Go.Proofs.YtocicifgglkaeaaW.PrintLast Go.Proofs.YtocicifgglkaeaaW.PrintMore Go.Proofs.Ytocicifgglkaeaa.Core Go.Proofs.Ytocicifgglkaeaa.Wk
set_option linter.unusedVariables false
set_option linter.unusedSimpArgs false
set_option maxHeartbeats 4000000 in
set_option maxRecDepth 100000 in
theorem may_3 (a c : Int) (A : Option Addr) (cc : Nat) (v : List Int) (t n o : Int) (w : World) (hV : Kd.C (Kd.int .i64) w A v.length v) : Calls Try.prog 20 #[.agg #[.int .i64 3, .int .i64 a, .int .i64 c, .slice A v.length cc, .int .i64 t, .int .i64 n, .int .i64 o]] w fun e w' => e = .returned (.bool (chkB 3 a c v t n o)) ∧ Below w.heap.size w w' := by
 have HV := Aside0.mk hV; clear hV
 by_cases hz0 : (n == 0) = true
 ·have z0 : (n == 0) = true := hz0; clear hz0
  by_cases hz1 : (o == 0) = true
  ·have z1 : (o == 0) = true := hz1; clear hz1
   by_cases hz2 : ((v.length : Int) == 0) = true
   ·have z2 : ((v.length : Int) == 0) = true := hz2; clear hz2
    by_cases hz3 : (t == 0) = true
    ·have z3 : (t == 0) = true := hz3; clear hz3
     by_cases hz4 : decide (1 ≤ c) = true
     ·have z4 : decide (1 ≤ c) = true := hz4; clear hz4; have pz4 := of_decide_eq_true z4
      by_cases hz5 : decide (c ≤ 125) = true
      ·have z5 : decide (c ≤ 125) = true := hz5; clear hz5; have pz5 := of_decide_eq_true z5
       by_cases hz6 : spB a c = true
       ·have z6 : spB a c = true := hz6; clear hz6
        have HR : Aside0 (chkB 3 a c v t n o = true) := ⟨by simp_all [chkB, wB] <;> (intros; omega)⟩
        rw [HR.out]
        go_enter Try.func20, Try.ntmps20
        go_wp2_with (first | ((with_reducible refine gate_dst (N := 1) rfl ?_); refine bx_ (N := 1) (cs := #[.int .i64 3, .int .i64 a, .int .i64 c, .slice A v.length cc, .int .i64 t, .int .i64 n, .int .i64 o]) (t := 24) ?_; intro g hg w1 hb HB; have XB := Aside0.mk HB; have BK := Aside0.mk hb; obtain ⟨k0, k1, k2, k3, k4, k5, k6⟩ := cells7 hb; clear hg hb HB) | (go_at_call 45; refine (is_c _ _).mono ?_; rintro e w' ⟨rfl, rfl⟩) | (go_at_call 43; refine (refspan_c _ _ _ (by omega) (by omega)).mono ?_; rintro e w' ⟨rfl, rfl⟩))
        go_ret
        exact ⟨rfl, XB.out⟩
       ·have z6 : spB a c = false := by simpa using hz6
        clear hz6
        have HR : Aside0 (chkB 3 a c v t n o = false) := ⟨by simp_all [chkB, wB] <;> (intros; omega)⟩
        rw [HR.out]
        go_enter Try.func20, Try.ntmps20
        go_wp2_with (first | ((with_reducible refine gate_dst (N := 1) rfl ?_); refine bx_ (N := 1) (cs := #[.int .i64 3, .int .i64 a, .int .i64 c, .slice A v.length cc, .int .i64 t, .int .i64 n, .int .i64 o]) (t := 24) ?_; intro g hg w1 hb HB; have XB := Aside0.mk HB; have BK := Aside0.mk hb; obtain ⟨k0, k1, k2, k3, k4, k5, k6⟩ := cells7 hb; clear hg hb HB) | (go_at_call 45; refine (is_c _ _).mono ?_; rintro e w' ⟨rfl, rfl⟩) | (go_at_call 43; refine (refspan_c _ _ _ (by omega) (by omega)).mono ?_; rintro e w' ⟨rfl, rfl⟩))
        go_ret
        exact ⟨rfl, XB.out⟩
      ·have z5 : decide (c ≤ 125) = false := by simpa using hz5
       clear hz5
       have HR : Aside0 (chkB 3 a c v t n o = false) := ⟨by simp_all [chkB, wB] <;> (intros; omega)⟩
       rw [HR.out]
       go_enter Try.func20, Try.ntmps20
       go_wp2_with (first | ((with_reducible refine gate_dst (N := 1) rfl ?_); refine bx_ (N := 1) (cs := #[.int .i64 3, .int .i64 a, .int .i64 c, .slice A v.length cc, .int .i64 t, .int .i64 n, .int .i64 o]) (t := 24) ?_; intro g hg w1 hb HB; have XB := Aside0.mk HB; have BK := Aside0.mk hb; obtain ⟨k0, k1, k2, k3, k4, k5, k6⟩ := cells7 hb; clear hg hb HB) | (go_at_call 45; refine (is_c _ _).mono ?_; rintro e w' ⟨rfl, rfl⟩) | (go_at_call 43; refine (refspan_c _ _ _ (by omega) (by omega)).mono ?_; rintro e w' ⟨rfl, rfl⟩))
       go_ret
       exact ⟨rfl, XB.out⟩
     ·have z4 : decide (1 ≤ c) = false := by simpa using hz4
      clear hz4
      have HR : Aside0 (chkB 3 a c v t n o = false) := ⟨by simp_all [chkB, wB] <;> (intros; omega)⟩
      rw [HR.out]
      go_enter Try.func20, Try.ntmps20
      go_wp2_with (first | ((with_reducible refine gate_dst (N := 1) rfl ?_); refine bx_ (N := 1) (cs := #[.int .i64 3, .int .i64 a, .int .i64 c, .slice A v.length cc, .int .i64 t, .int .i64 n, .int .i64 o]) (t := 24) ?_; intro g hg w1 hb HB; have XB := Aside0.mk HB; have BK := Aside0.mk hb; obtain ⟨k0, k1, k2, k3, k4, k5, k6⟩ := cells7 hb; clear hg hb HB) | (go_at_call 45; refine (is_c _ _).mono ?_; rintro e w' ⟨rfl, rfl⟩) | (go_at_call 43; refine (refspan_c _ _ _ (by omega) (by omega)).mono ?_; rintro e w' ⟨rfl, rfl⟩))
      go_ret
      exact ⟨rfl, XB.out⟩
    ·have z3 : (t == 0) = false := by simpa using hz3
     clear hz3
     have HR : Aside0 (chkB 3 a c v t n o = false) := ⟨by simp_all [chkB, wB] <;> (intros; omega)⟩
     rw [HR.out]
     go_enter Try.func20, Try.ntmps20
     go_wp2_with (first | ((with_reducible refine gate_dst (N := 1) rfl ?_); refine bx_ (N := 1) (cs := #[.int .i64 3, .int .i64 a, .int .i64 c, .slice A v.length cc, .int .i64 t, .int .i64 n, .int .i64 o]) (t := 24) ?_; intro g hg w1 hb HB; have XB := Aside0.mk HB; have BK := Aside0.mk hb; obtain ⟨k0, k1, k2, k3, k4, k5, k6⟩ := cells7 hb; clear hg hb HB) | (go_at_call 45; refine (is_c _ _).mono ?_; rintro e w' ⟨rfl, rfl⟩) | (go_at_call 43; refine (refspan_c _ _ _ (by omega) (by omega)).mono ?_; rintro e w' ⟨rfl, rfl⟩))
     go_ret
     exact ⟨rfl, XB.out⟩
   ·have z2 : ((v.length : Int) == 0) = false := by simpa using hz2
    clear hz2
    have HR : Aside0 (chkB 3 a c v t n o = false) := ⟨by simp_all [chkB, wB] <;> (intros; omega)⟩
    rw [HR.out]
    go_enter Try.func20, Try.ntmps20
    go_wp2_with (first | ((with_reducible refine gate_dst (N := 1) rfl ?_); refine bx_ (N := 1) (cs := #[.int .i64 3, .int .i64 a, .int .i64 c, .slice A v.length cc, .int .i64 t, .int .i64 n, .int .i64 o]) (t := 24) ?_; intro g hg w1 hb HB; have XB := Aside0.mk HB; have BK := Aside0.mk hb; obtain ⟨k0, k1, k2, k3, k4, k5, k6⟩ := cells7 hb; clear hg hb HB) | (go_at_call 45; refine (is_c _ _).mono ?_; rintro e w' ⟨rfl, rfl⟩) | (go_at_call 43; refine (refspan_c _ _ _ (by omega) (by omega)).mono ?_; rintro e w' ⟨rfl, rfl⟩))
    go_ret
    exact ⟨rfl, XB.out⟩
  ·have z1 : (o == 0) = false := by simpa using hz1
   clear hz1
   by_cases hz2 : ((v.length : Int) == 0) = true
   ·have z2 : ((v.length : Int) == 0) = true := hz2; clear hz2
    have HR : Aside0 (chkB 3 a c v t n o = false) := ⟨by simp_all [chkB, wB] <;> (intros; omega)⟩
    rw [HR.out]
    go_enter Try.func20, Try.ntmps20
    go_wp2_with (first | ((with_reducible refine gate_dst (N := 1) rfl ?_); refine bx_ (N := 1) (cs := #[.int .i64 3, .int .i64 a, .int .i64 c, .slice A v.length cc, .int .i64 t, .int .i64 n, .int .i64 o]) (t := 24) ?_; intro g hg w1 hb HB; have XB := Aside0.mk HB; have BK := Aside0.mk hb; obtain ⟨k0, k1, k2, k3, k4, k5, k6⟩ := cells7 hb; clear hg hb HB) | (go_at_call 45; refine (is_c _ _).mono ?_; rintro e w' ⟨rfl, rfl⟩) | (go_at_call 43; refine (refspan_c _ _ _ (by omega) (by omega)).mono ?_; rintro e w' ⟨rfl, rfl⟩))
    go_ret
    exact ⟨rfl, XB.out⟩
   ·have z2 : ((v.length : Int) == 0) = false := by simpa using hz2
    clear hz2
    have HR : Aside0 (chkB 3 a c v t n o = false) := ⟨by simp_all [chkB, wB] <;> (intros; omega)⟩
    rw [HR.out]
    go_enter Try.func20, Try.ntmps20
    go_wp2_with (first | ((with_reducible refine gate_dst (N := 1) rfl ?_); refine bx_ (N := 1) (cs := #[.int .i64 3, .int .i64 a, .int .i64 c, .slice A v.length cc, .int .i64 t, .int .i64 n, .int .i64 o]) (t := 24) ?_; intro g hg w1 hb HB; have XB := Aside0.mk HB; have BK := Aside0.mk hb; obtain ⟨k0, k1, k2, k3, k4, k5, k6⟩ := cells7 hb; clear hg hb HB) | (go_at_call 45; refine (is_c _ _).mono ?_; rintro e w' ⟨rfl, rfl⟩) | (go_at_call 43; refine (refspan_c _ _ _ (by omega) (by omega)).mono ?_; rintro e w' ⟨rfl, rfl⟩))
    go_ret
    exact ⟨rfl, XB.out⟩
 ·have z0 : (n == 0) = false := by simpa using hz0
  clear hz0
  by_cases hz1 : ((v.length : Int) == 0) = true
  ·have z1 : ((v.length : Int) == 0) = true := hz1; clear hz1
   have HR : Aside0 (chkB 3 a c v t n o = false) := ⟨by simp_all [chkB, wB] <;> (intros; omega)⟩
   rw [HR.out]
   go_enter Try.func20, Try.ntmps20
   go_wp2_with (first | ((with_reducible refine gate_dst (N := 1) rfl ?_); refine bx_ (N := 1) (cs := #[.int .i64 3, .int .i64 a, .int .i64 c, .slice A v.length cc, .int .i64 t, .int .i64 n, .int .i64 o]) (t := 24) ?_; intro g hg w1 hb HB; have XB := Aside0.mk HB; have BK := Aside0.mk hb; obtain ⟨k0, k1, k2, k3, k4, k5, k6⟩ := cells7 hb; clear hg hb HB) | (go_at_call 45; refine (is_c _ _).mono ?_; rintro e w' ⟨rfl, rfl⟩) | (go_at_call 43; refine (refspan_c _ _ _ (by omega) (by omega)).mono ?_; rintro e w' ⟨rfl, rfl⟩))
   go_ret
   exact ⟨rfl, XB.out⟩
  ·have z1 : ((v.length : Int) == 0) = false := by simpa using hz1
   clear hz1
   have HR : Aside0 (chkB 3 a c v t n o = false) := ⟨by simp_all [chkB, wB] <;> (intros; omega)⟩
   rw [HR.out]
   go_enter Try.func20, Try.ntmps20
   go_wp2_with (first | ((with_reducible refine gate_dst (N := 1) rfl ?_); refine bx_ (N := 1) (cs := #[.int .i64 3, .int .i64 a, .int .i64 c, .slice A v.length cc, .int .i64 t, .int .i64 n, .int .i64 o]) (t := 24) ?_; intro g hg w1 hb HB; have XB := Aside0.mk HB; have BK := Aside0.mk hb; obtain ⟨k0, k1, k2, k3, k4, k5, k6⟩ := cells7 hb; clear hg hb HB) | (go_at_call 45; refine (is_c _ _).mono ?_; rintro e w' ⟨rfl, rfl⟩) | (go_at_call 43; refine (refspan_c _ _ _ (by omega) (by omega)).mono ?_; rintro e w' ⟨rfl, rfl⟩))
   go_ret
   exact ⟨rfl, XB.out⟩
set_option maxHeartbeats 4000000 in
set_option maxRecDepth 100000 in
theorem may_4 (a c : Int) (A : Option Addr) (cc : Nat) (v : List Int) (t n o : Int) (w : World) (hV : Kd.C (Kd.int .i64) w A v.length v) : Calls Try.prog 20 #[.agg #[.int .i64 4, .int .i64 a, .int .i64 c, .slice A v.length cc, .int .i64 t, .int .i64 n, .int .i64 o]] w fun e w' => e = .returned (.bool (chkB 4 a c v t n o)) ∧ Below w.heap.size w w' := by
 have HV := Aside0.mk hV; clear hV
 by_cases hz0 : (n == 0) = true
 ·have z0 : (n == 0) = true := hz0; clear hz0
  by_cases hz1 : (o == 0) = true
  ·have z1 : (o == 0) = true := hz1; clear hz1
   by_cases hz2 : ((v.length : Int) == 0) = true
   ·have z2 : ((v.length : Int) == 0) = true := hz2; clear hz2
    by_cases hz3 : (t == 0) = true
    ·have z3 : (t == 0) = true := hz3; clear hz3
     by_cases hz4 : decide (1 ≤ c) = true
     ·have z4 : decide (1 ≤ c) = true := hz4; clear hz4; have pz4 := of_decide_eq_true z4
      by_cases hz5 : decide (c ≤ 125) = true
      ·have z5 : decide (c ≤ 125) = true := hz5; clear hz5; have pz5 := of_decide_eq_true z5
       by_cases hz6 : spB a c = true
       ·have z6 : spB a c = true := hz6; clear hz6
        have HR : Aside0 (chkB 4 a c v t n o = true) := ⟨by simp_all [chkB, wB] <;> (intros; omega)⟩
        rw [HR.out]
        go_enter Try.func20, Try.ntmps20
        go_wp2_with (first | ((with_reducible refine gate_dst (N := 1) rfl ?_); refine bx_ (N := 1) (cs := #[.int .i64 4, .int .i64 a, .int .i64 c, .slice A v.length cc, .int .i64 t, .int .i64 n, .int .i64 o]) (t := 24) ?_; intro g hg w1 hb HB; have XB := Aside0.mk HB; have BK := Aside0.mk hb; obtain ⟨k0, k1, k2, k3, k4, k5, k6⟩ := cells7 hb; clear hg hb HB) | (go_at_call 45; refine (is_c _ _).mono ?_; rintro e w' ⟨rfl, rfl⟩) | (go_at_call 43; refine (refspan_c _ _ _ (by omega) (by omega)).mono ?_; rintro e w' ⟨rfl, rfl⟩))
        go_ret
        exact ⟨rfl, XB.out⟩
       ·have z6 : spB a c = false := by simpa using hz6
        clear hz6
        have HR : Aside0 (chkB 4 a c v t n o = false) := ⟨by simp_all [chkB, wB] <;> (intros; omega)⟩
        rw [HR.out]
        go_enter Try.func20, Try.ntmps20
        go_wp2_with (first | ((with_reducible refine gate_dst (N := 1) rfl ?_); refine bx_ (N := 1) (cs := #[.int .i64 4, .int .i64 a, .int .i64 c, .slice A v.length cc, .int .i64 t, .int .i64 n, .int .i64 o]) (t := 24) ?_; intro g hg w1 hb HB; have XB := Aside0.mk HB; have BK := Aside0.mk hb; obtain ⟨k0, k1, k2, k3, k4, k5, k6⟩ := cells7 hb; clear hg hb HB) | (go_at_call 45; refine (is_c _ _).mono ?_; rintro e w' ⟨rfl, rfl⟩) | (go_at_call 43; refine (refspan_c _ _ _ (by omega) (by omega)).mono ?_; rintro e w' ⟨rfl, rfl⟩))
        go_ret
        exact ⟨rfl, XB.out⟩
      ·have z5 : decide (c ≤ 125) = false := by simpa using hz5
       clear hz5
       have HR : Aside0 (chkB 4 a c v t n o = false) := ⟨by simp_all [chkB, wB] <;> (intros; omega)⟩
       rw [HR.out]
       go_enter Try.func20, Try.ntmps20
       go_wp2_with (first | ((with_reducible refine gate_dst (N := 1) rfl ?_); refine bx_ (N := 1) (cs := #[.int .i64 4, .int .i64 a, .int .i64 c, .slice A v.length cc, .int .i64 t, .int .i64 n, .int .i64 o]) (t := 24) ?_; intro g hg w1 hb HB; have XB := Aside0.mk HB; have BK := Aside0.mk hb; obtain ⟨k0, k1, k2, k3, k4, k5, k6⟩ := cells7 hb; clear hg hb HB) | (go_at_call 45; refine (is_c _ _).mono ?_; rintro e w' ⟨rfl, rfl⟩) | (go_at_call 43; refine (refspan_c _ _ _ (by omega) (by omega)).mono ?_; rintro e w' ⟨rfl, rfl⟩))
       go_ret
       exact ⟨rfl, XB.out⟩
     ·have z4 : decide (1 ≤ c) = false := by simpa using hz4
      clear hz4
      have HR : Aside0 (chkB 4 a c v t n o = false) := ⟨by simp_all [chkB, wB] <;> (intros; omega)⟩
      rw [HR.out]
      go_enter Try.func20, Try.ntmps20
      go_wp2_with (first | ((with_reducible refine gate_dst (N := 1) rfl ?_); refine bx_ (N := 1) (cs := #[.int .i64 4, .int .i64 a, .int .i64 c, .slice A v.length cc, .int .i64 t, .int .i64 n, .int .i64 o]) (t := 24) ?_; intro g hg w1 hb HB; have XB := Aside0.mk HB; have BK := Aside0.mk hb; obtain ⟨k0, k1, k2, k3, k4, k5, k6⟩ := cells7 hb; clear hg hb HB) | (go_at_call 45; refine (is_c _ _).mono ?_; rintro e w' ⟨rfl, rfl⟩) | (go_at_call 43; refine (refspan_c _ _ _ (by omega) (by omega)).mono ?_; rintro e w' ⟨rfl, rfl⟩))
      go_ret
      exact ⟨rfl, XB.out⟩
    ·have z3 : (t == 0) = false := by simpa using hz3
     clear hz3
     have HR : Aside0 (chkB 4 a c v t n o = false) := ⟨by simp_all [chkB, wB] <;> (intros; omega)⟩
     rw [HR.out]
     go_enter Try.func20, Try.ntmps20
     go_wp2_with (first | ((with_reducible refine gate_dst (N := 1) rfl ?_); refine bx_ (N := 1) (cs := #[.int .i64 4, .int .i64 a, .int .i64 c, .slice A v.length cc, .int .i64 t, .int .i64 n, .int .i64 o]) (t := 24) ?_; intro g hg w1 hb HB; have XB := Aside0.mk HB; have BK := Aside0.mk hb; obtain ⟨k0, k1, k2, k3, k4, k5, k6⟩ := cells7 hb; clear hg hb HB) | (go_at_call 45; refine (is_c _ _).mono ?_; rintro e w' ⟨rfl, rfl⟩) | (go_at_call 43; refine (refspan_c _ _ _ (by omega) (by omega)).mono ?_; rintro e w' ⟨rfl, rfl⟩))
     go_ret
     exact ⟨rfl, XB.out⟩
   ·have z2 : ((v.length : Int) == 0) = false := by simpa using hz2
    clear hz2
    have HR : Aside0 (chkB 4 a c v t n o = false) := ⟨by simp_all [chkB, wB] <;> (intros; omega)⟩
    rw [HR.out]
    go_enter Try.func20, Try.ntmps20
    go_wp2_with (first | ((with_reducible refine gate_dst (N := 1) rfl ?_); refine bx_ (N := 1) (cs := #[.int .i64 4, .int .i64 a, .int .i64 c, .slice A v.length cc, .int .i64 t, .int .i64 n, .int .i64 o]) (t := 24) ?_; intro g hg w1 hb HB; have XB := Aside0.mk HB; have BK := Aside0.mk hb; obtain ⟨k0, k1, k2, k3, k4, k5, k6⟩ := cells7 hb; clear hg hb HB) | (go_at_call 45; refine (is_c _ _).mono ?_; rintro e w' ⟨rfl, rfl⟩) | (go_at_call 43; refine (refspan_c _ _ _ (by omega) (by omega)).mono ?_; rintro e w' ⟨rfl, rfl⟩))
    go_ret
    exact ⟨rfl, XB.out⟩
  ·have z1 : (o == 0) = false := by simpa using hz1
   clear hz1
   by_cases hz2 : ((v.length : Int) == 0) = true
   ·have z2 : ((v.length : Int) == 0) = true := hz2; clear hz2
    have HR : Aside0 (chkB 4 a c v t n o = false) := ⟨by simp_all [chkB, wB] <;> (intros; omega)⟩
    rw [HR.out]
    go_enter Try.func20, Try.ntmps20
    go_wp2_with (first | ((with_reducible refine gate_dst (N := 1) rfl ?_); refine bx_ (N := 1) (cs := #[.int .i64 4, .int .i64 a, .int .i64 c, .slice A v.length cc, .int .i64 t, .int .i64 n, .int .i64 o]) (t := 24) ?_; intro g hg w1 hb HB; have XB := Aside0.mk HB; have BK := Aside0.mk hb; obtain ⟨k0, k1, k2, k3, k4, k5, k6⟩ := cells7 hb; clear hg hb HB) | (go_at_call 45; refine (is_c _ _).mono ?_; rintro e w' ⟨rfl, rfl⟩) | (go_at_call 43; refine (refspan_c _ _ _ (by omega) (by omega)).mono ?_; rintro e w' ⟨rfl, rfl⟩))
    go_ret
    exact ⟨rfl, XB.out⟩
   ·have z2 : ((v.length : Int) == 0) = false := by simpa using hz2
    clear hz2
    have HR : Aside0 (chkB 4 a c v t n o = false) := ⟨by simp_all [chkB, wB] <;> (intros; omega)⟩
    rw [HR.out]
    go_enter Try.func20, Try.ntmps20
    go_wp2_with (first | ((with_reducible refine gate_dst (N := 1) rfl ?_); refine bx_ (N := 1) (cs := #[.int .i64 4, .int .i64 a, .int .i64 c, .slice A v.length cc, .int .i64 t, .int .i64 n, .int .i64 o]) (t := 24) ?_; intro g hg w1 hb HB; have XB := Aside0.mk HB; have BK := Aside0.mk hb; obtain ⟨k0, k1, k2, k3, k4, k5, k6⟩ := cells7 hb; clear hg hb HB) | (go_at_call 45; refine (is_c _ _).mono ?_; rintro e w' ⟨rfl, rfl⟩) | (go_at_call 43; refine (refspan_c _ _ _ (by omega) (by omega)).mono ?_; rintro e w' ⟨rfl, rfl⟩))
    go_ret
    exact ⟨rfl, XB.out⟩
 ·have z0 : (n == 0) = false := by simpa using hz0
  clear hz0
  by_cases hz1 : ((v.length : Int) == 0) = true
  ·have z1 : ((v.length : Int) == 0) = true := hz1; clear hz1
   have HR : Aside0 (chkB 4 a c v t n o = false) := ⟨by simp_all [chkB, wB] <;> (intros; omega)⟩
   rw [HR.out]
   go_enter Try.func20, Try.ntmps20
   go_wp2_with (first | ((with_reducible refine gate_dst (N := 1) rfl ?_); refine bx_ (N := 1) (cs := #[.int .i64 4, .int .i64 a, .int .i64 c, .slice A v.length cc, .int .i64 t, .int .i64 n, .int .i64 o]) (t := 24) ?_; intro g hg w1 hb HB; have XB := Aside0.mk HB; have BK := Aside0.mk hb; obtain ⟨k0, k1, k2, k3, k4, k5, k6⟩ := cells7 hb; clear hg hb HB) | (go_at_call 45; refine (is_c _ _).mono ?_; rintro e w' ⟨rfl, rfl⟩) | (go_at_call 43; refine (refspan_c _ _ _ (by omega) (by omega)).mono ?_; rintro e w' ⟨rfl, rfl⟩))
   go_ret
   exact ⟨rfl, XB.out⟩
  ·have z1 : ((v.length : Int) == 0) = false := by simpa using hz1
   clear hz1
   have HR : Aside0 (chkB 4 a c v t n o = false) := ⟨by simp_all [chkB, wB] <;> (intros; omega)⟩
   rw [HR.out]
   go_enter Try.func20, Try.ntmps20
   go_wp2_with (first | ((with_reducible refine gate_dst (N := 1) rfl ?_); refine bx_ (N := 1) (cs := #[.int .i64 4, .int .i64 a, .int .i64 c, .slice A v.length cc, .int .i64 t, .int .i64 n, .int .i64 o]) (t := 24) ?_; intro g hg w1 hb HB; have XB := Aside0.mk HB; have BK := Aside0.mk hb; obtain ⟨k0, k1, k2, k3, k4, k5, k6⟩ := cells7 hb; clear hg hb HB) | (go_at_call 45; refine (is_c _ _).mono ?_; rintro e w' ⟨rfl, rfl⟩) | (go_at_call 43; refine (refspan_c _ _ _ (by omega) (by omega)).mono ?_; rintro e w' ⟨rfl, rfl⟩))
   go_ret
   exact ⟨rfl, XB.out⟩
end Go.Proofs.Ytocicifgglkaeaa.Chk
end

section
namespace Go.Proofs.Ytocicifgglkaeaa.Chk
open Go.RowKit Go.Proofs.YtocicifgglkaeaaW.PrintWords Go.Proofs.YtocicifgglkaeaaW.PrintLast Go.Proofs.YtocicifgglkaeaaW.PrintMore Go.Proofs.Ytocicifgglkaeaa.Core Go.Proofs.Ytocicifgglkaeaa.Wk
set_option linter.unusedVariables false
set_option linter.unusedSimpArgs false
set_option maxHeartbeats 4000000 in
set_option maxRecDepth 100000 in
theorem may_5 (a c : Int) (A : Option Addr) (cc : Nat) (v : List Int) (t n o : Int) (w : World) (hV : Kd.C (Kd.int .i64) w A v.length v) : Calls Try.prog 20 #[.agg #[.int .i64 5, .int .i64 a, .int .i64 c, .slice A v.length cc, .int .i64 t, .int .i64 n, .int .i64 o]] w fun e w' => e = .returned (.bool (chkB 5 a c v t n o)) ∧ Below w.heap.size w w' := by
 have HV := Aside0.mk hV; clear hV
 by_cases hz0 : (n == 0) = true
 ·have z0 : (n == 0) = true := hz0; clear hz0
  by_cases hz1 : (o == 0) = true
  ·have z1 : (o == 0) = true := hz1; clear hz1
   by_cases hz2 : (t == 0) = true
   ·have z2 : (t == 0) = true := hz2; clear hz2
    by_cases hz3 : (c == 0) = true
    ·have z3 : (c == 0) = true := hz3; clear hz3
     by_cases hz4 : smB 1 1 1 v = true
     ·have z4 : smB 1 1 1 v = true := hz4; clear hz4; have pz4 := smB_len z4
      by_cases hz5 : spB a 1 = true
      ·have z5 : spB a 1 = true := hz5; clear hz5
       have HR : Aside0 (chkB 5 a c v t n o = true) := ⟨by simp_all [chkB, wB] <;> (intros; omega)⟩
       rw [HR.out]
       go_enter Try.func20, Try.ntmps20
       go_wp2_with (first | ((with_reducible refine gate_dst (N := 1) rfl ?_); refine bx_ (N := 1) (cs := #[.int .i64 5, .int .i64 a, .int .i64 c, .slice A v.length cc, .int .i64 t, .int .i64 n, .int .i64 o]) (t := 24) ?_; intro g hg w1 hb HB; have XB := Aside0.mk HB; have BK := Aside0.mk hb; obtain ⟨k0, k1, k2, k3, k4, k5, k6⟩ := cells7 hb; clear hg hb HB) | (go_at_call 45; refine (is_c _ _).mono ?_; rintro e w' ⟨rfl, rfl⟩) | (go_at_call 43; refine (refspan_c _ _ _ (by omega) (by omega)).mono ?_; rintro e w' ⟨rfl, rfl⟩) | (go_at_call 44; refine (vals_c 5 a c A cc v t n o _ _ _ (Kd.C_below HV.out XB.out) (m := 1) (by decide)).mono ?_; rintro e w2 ⟨rfl, HB⟩; have XBn := Aside0.mk (below_step XB.out HB); have BKn := Aside0.mk (blk_below BK.out HB); obtain ⟨k0, k1, k2, k3, k4, k5, k6⟩ := cells7 BKn.out; clear HB XB BK; have XB := XBn; have BK := BKn))
       go_ret
       exact ⟨rfl, XB.out⟩
      ·have z5 : spB a 1 = false := by simpa using hz5
       clear hz5
       have HR : Aside0 (chkB 5 a c v t n o = false) := ⟨by simp_all [chkB, wB] <;> (intros; omega)⟩
       rw [HR.out]
       go_enter Try.func20, Try.ntmps20
       go_wp2_with (first | ((with_reducible refine gate_dst (N := 1) rfl ?_); refine bx_ (N := 1) (cs := #[.int .i64 5, .int .i64 a, .int .i64 c, .slice A v.length cc, .int .i64 t, .int .i64 n, .int .i64 o]) (t := 24) ?_; intro g hg w1 hb HB; have XB := Aside0.mk HB; have BK := Aside0.mk hb; obtain ⟨k0, k1, k2, k3, k4, k5, k6⟩ := cells7 hb; clear hg hb HB) | (go_at_call 45; refine (is_c _ _).mono ?_; rintro e w' ⟨rfl, rfl⟩) | (go_at_call 43; refine (refspan_c _ _ _ (by omega) (by omega)).mono ?_; rintro e w' ⟨rfl, rfl⟩) | (go_at_call 44; refine (vals_c 5 a c A cc v t n o _ _ _ (Kd.C_below HV.out XB.out) (m := 1) (by decide)).mono ?_; rintro e w2 ⟨rfl, HB⟩; have XBn := Aside0.mk (below_step XB.out HB); have BKn := Aside0.mk (blk_below BK.out HB); obtain ⟨k0, k1, k2, k3, k4, k5, k6⟩ := cells7 BKn.out; clear HB XB BK; have XB := XBn; have BK := BKn))
       go_ret
       exact ⟨rfl, XB.out⟩
     ·have z4 : smB 1 1 1 v = false := by simpa using hz4
      clear hz4
      have HR : Aside0 (chkB 5 a c v t n o = false) := ⟨by simp_all [chkB, wB] <;> (intros; omega)⟩
      rw [HR.out]
      go_enter Try.func20, Try.ntmps20
      go_wp2_with (first | ((with_reducible refine gate_dst (N := 1) rfl ?_); refine bx_ (N := 1) (cs := #[.int .i64 5, .int .i64 a, .int .i64 c, .slice A v.length cc, .int .i64 t, .int .i64 n, .int .i64 o]) (t := 24) ?_; intro g hg w1 hb HB; have XB := Aside0.mk HB; have BK := Aside0.mk hb; obtain ⟨k0, k1, k2, k3, k4, k5, k6⟩ := cells7 hb; clear hg hb HB) | (go_at_call 45; refine (is_c _ _).mono ?_; rintro e w' ⟨rfl, rfl⟩) | (go_at_call 43; refine (refspan_c _ _ _ (by omega) (by omega)).mono ?_; rintro e w' ⟨rfl, rfl⟩) | (go_at_call 44; refine (vals_c 5 a c A cc v t n o _ _ _ (Kd.C_below HV.out XB.out) (m := 1) (by decide)).mono ?_; rintro e w2 ⟨rfl, HB⟩; have XBn := Aside0.mk (below_step XB.out HB); have BKn := Aside0.mk (blk_below BK.out HB); obtain ⟨k0, k1, k2, k3, k4, k5, k6⟩ := cells7 BKn.out; clear HB XB BK; have XB := XBn; have BK := BKn))
      go_ret
      exact ⟨rfl, XB.out⟩
    ·have z3 : (c == 0) = false := by simpa using hz3
     clear hz3
     have HR : Aside0 (chkB 5 a c v t n o = false) := ⟨by simp_all [chkB, wB] <;> (intros; omega)⟩
     rw [HR.out]
     go_enter Try.func20, Try.ntmps20
     go_wp2_with (first | ((with_reducible refine gate_dst (N := 1) rfl ?_); refine bx_ (N := 1) (cs := #[.int .i64 5, .int .i64 a, .int .i64 c, .slice A v.length cc, .int .i64 t, .int .i64 n, .int .i64 o]) (t := 24) ?_; intro g hg w1 hb HB; have XB := Aside0.mk HB; have BK := Aside0.mk hb; obtain ⟨k0, k1, k2, k3, k4, k5, k6⟩ := cells7 hb; clear hg hb HB) | (go_at_call 45; refine (is_c _ _).mono ?_; rintro e w' ⟨rfl, rfl⟩) | (go_at_call 43; refine (refspan_c _ _ _ (by omega) (by omega)).mono ?_; rintro e w' ⟨rfl, rfl⟩) | (go_at_call 44; refine (vals_c 5 a c A cc v t n o _ _ _ (Kd.C_below HV.out XB.out) (m := 1) (by decide)).mono ?_; rintro e w2 ⟨rfl, HB⟩; have XBn := Aside0.mk (below_step XB.out HB); have BKn := Aside0.mk (blk_below BK.out HB); obtain ⟨k0, k1, k2, k3, k4, k5, k6⟩ := cells7 BKn.out; clear HB XB BK; have XB := XBn; have BK := BKn))
     go_ret
     exact ⟨rfl, XB.out⟩
   ·have z2 : (t == 0) = false := by simpa using hz2
    clear hz2
    have HR : Aside0 (chkB 5 a c v t n o = false) := ⟨by simp_all [chkB, wB] <;> (intros; omega)⟩
    rw [HR.out]
    go_enter Try.func20, Try.ntmps20
    go_wp2_with (first | ((with_reducible refine gate_dst (N := 1) rfl ?_); refine bx_ (N := 1) (cs := #[.int .i64 5, .int .i64 a, .int .i64 c, .slice A v.length cc, .int .i64 t, .int .i64 n, .int .i64 o]) (t := 24) ?_; intro g hg w1 hb HB; have XB := Aside0.mk HB; have BK := Aside0.mk hb; obtain ⟨k0, k1, k2, k3, k4, k5, k6⟩ := cells7 hb; clear hg hb HB) | (go_at_call 45; refine (is_c _ _).mono ?_; rintro e w' ⟨rfl, rfl⟩) | (go_at_call 43; refine (refspan_c _ _ _ (by omega) (by omega)).mono ?_; rintro e w' ⟨rfl, rfl⟩) | (go_at_call 44; refine (vals_c 5 a c A cc v t n o _ _ _ (Kd.C_below HV.out XB.out) (m := 1) (by decide)).mono ?_; rintro e w2 ⟨rfl, HB⟩; have XBn := Aside0.mk (below_step XB.out HB); have BKn := Aside0.mk (blk_below BK.out HB); obtain ⟨k0, k1, k2, k3, k4, k5, k6⟩ := cells7 BKn.out; clear HB XB BK; have XB := XBn; have BK := BKn))
    go_ret
    exact ⟨rfl, XB.out⟩
  ·have z1 : (o == 0) = false := by simpa using hz1
   clear hz1
   have HR : Aside0 (chkB 5 a c v t n o = false) := ⟨by simp_all [chkB, wB] <;> (intros; omega)⟩
   rw [HR.out]
   go_enter Try.func20, Try.ntmps20
   go_wp2_with (first | ((with_reducible refine gate_dst (N := 1) rfl ?_); refine bx_ (N := 1) (cs := #[.int .i64 5, .int .i64 a, .int .i64 c, .slice A v.length cc, .int .i64 t, .int .i64 n, .int .i64 o]) (t := 24) ?_; intro g hg w1 hb HB; have XB := Aside0.mk HB; have BK := Aside0.mk hb; obtain ⟨k0, k1, k2, k3, k4, k5, k6⟩ := cells7 hb; clear hg hb HB) | (go_at_call 45; refine (is_c _ _).mono ?_; rintro e w' ⟨rfl, rfl⟩) | (go_at_call 43; refine (refspan_c _ _ _ (by omega) (by omega)).mono ?_; rintro e w' ⟨rfl, rfl⟩) | (go_at_call 44; refine (vals_c 5 a c A cc v t n o _ _ _ (Kd.C_below HV.out XB.out) (m := 1) (by decide)).mono ?_; rintro e w2 ⟨rfl, HB⟩; have XBn := Aside0.mk (below_step XB.out HB); have BKn := Aside0.mk (blk_below BK.out HB); obtain ⟨k0, k1, k2, k3, k4, k5, k6⟩ := cells7 BKn.out; clear HB XB BK; have XB := XBn; have BK := BKn))
   go_ret
   exact ⟨rfl, XB.out⟩
 ·have z0 : (n == 0) = false := by simpa using hz0
  clear hz0
  have HR : Aside0 (chkB 5 a c v t n o = false) := ⟨by simp_all [chkB, wB] <;> (intros; omega)⟩
  rw [HR.out]
  go_enter Try.func20, Try.ntmps20
  go_wp2_with (first | ((with_reducible refine gate_dst (N := 1) rfl ?_); refine bx_ (N := 1) (cs := #[.int .i64 5, .int .i64 a, .int .i64 c, .slice A v.length cc, .int .i64 t, .int .i64 n, .int .i64 o]) (t := 24) ?_; intro g hg w1 hb HB; have XB := Aside0.mk HB; have BK := Aside0.mk hb; obtain ⟨k0, k1, k2, k3, k4, k5, k6⟩ := cells7 hb; clear hg hb HB) | (go_at_call 45; refine (is_c _ _).mono ?_; rintro e w' ⟨rfl, rfl⟩) | (go_at_call 43; refine (refspan_c _ _ _ (by omega) (by omega)).mono ?_; rintro e w' ⟨rfl, rfl⟩) | (go_at_call 44; refine (vals_c 5 a c A cc v t n o _ _ _ (Kd.C_below HV.out XB.out) (m := 1) (by decide)).mono ?_; rintro e w2 ⟨rfl, HB⟩; have XBn := Aside0.mk (below_step XB.out HB); have BKn := Aside0.mk (blk_below BK.out HB); obtain ⟨k0, k1, k2, k3, k4, k5, k6⟩ := cells7 BKn.out; clear HB XB BK; have XB := XBn; have BK := BKn))
  go_ret
  exact ⟨rfl, XB.out⟩
set_option maxHeartbeats 4000000 in
set_option maxRecDepth 100000 in
theorem may_6 (a c : Int) (A : Option Addr) (cc : Nat) (v : List Int) (t n o : Int) (w : World) (hV : Kd.C (Kd.int .i64) w A v.length v) : Calls Try.prog 20 #[.agg #[.int .i64 6, .int .i64 a, .int .i64 c, .slice A v.length cc, .int .i64 t, .int .i64 n, .int .i64 o]] w fun e w' => e = .returned (.bool (chkB 6 a c v t n o)) ∧ Below w.heap.size w w' := by
 have HV := Aside0.mk hV; clear hV
 by_cases hz0 : (n == 0) = true
 ·have z0 : (n == 0) = true := hz0; clear hz0
  by_cases hz1 : (o == 0) = true
  ·have z1 : (o == 0) = true := hz1; clear hz1
   by_cases hz2 : (t == 0) = true
   ·have z2 : (t == 0) = true := hz2; clear hz2
    by_cases hz3 : (c == 0) = true
    ·have z3 : (c == 0) = true := hz3; clear hz3
     by_cases hz4 : smB 1 1 65535 v = true
     ·have z4 : smB 1 1 65535 v = true := hz4; clear hz4; have pz4 := smB_len z4
      by_cases hz5 : spB a 1 = true
      ·have z5 : spB a 1 = true := hz5; clear hz5
       have HR : Aside0 (chkB 6 a c v t n o = true) := ⟨by simp_all [chkB, wB] <;> (intros; omega)⟩
       rw [HR.out]
       go_enter Try.func20, Try.ntmps20
       go_wp2_with (first | ((with_reducible refine gate_dst (N := 1) rfl ?_); refine bx_ (N := 1) (cs := #[.int .i64 6, .int .i64 a, .int .i64 c, .slice A v.length cc, .int .i64 t, .int .i64 n, .int .i64 o]) (t := 24) ?_; intro g hg w1 hb HB; have XB := Aside0.mk HB; have BK := Aside0.mk hb; obtain ⟨k0, k1, k2, k3, k4, k5, k6⟩ := cells7 hb; clear hg hb HB) | (go_at_call 45; refine (is_c _ _).mono ?_; rintro e w' ⟨rfl, rfl⟩) | (go_at_call 43; refine (refspan_c _ _ _ (by omega) (by omega)).mono ?_; rintro e w' ⟨rfl, rfl⟩) | (go_at_call 44; refine (vals_c 6 a c A cc v t n o _ _ _ (Kd.C_below HV.out XB.out) (m := 65535) (by decide)).mono ?_; rintro e w2 ⟨rfl, HB⟩; have XBn := Aside0.mk (below_step XB.out HB); have BKn := Aside0.mk (blk_below BK.out HB); obtain ⟨k0, k1, k2, k3, k4, k5, k6⟩ := cells7 BKn.out; clear HB XB BK; have XB := XBn; have BK := BKn))
       go_ret
       exact ⟨rfl, XB.out⟩
      ·have z5 : spB a 1 = false := by simpa using hz5
       clear hz5
       have HR : Aside0 (chkB 6 a c v t n o = false) := ⟨by simp_all [chkB, wB] <;> (intros; omega)⟩
       rw [HR.out]
       go_enter Try.func20, Try.ntmps20
       go_wp2_with (first | ((with_reducible refine gate_dst (N := 1) rfl ?_); refine bx_ (N := 1) (cs := #[.int .i64 6, .int .i64 a, .int .i64 c, .slice A v.length cc, .int .i64 t, .int .i64 n, .int .i64 o]) (t := 24) ?_; intro g hg w1 hb HB; have XB := Aside0.mk HB; have BK := Aside0.mk hb; obtain ⟨k0, k1, k2, k3, k4, k5, k6⟩ := cells7 hb; clear hg hb HB) | (go_at_call 45; refine (is_c _ _).mono ?_; rintro e w' ⟨rfl, rfl⟩) | (go_at_call 43; refine (refspan_c _ _ _ (by omega) (by omega)).mono ?_; rintro e w' ⟨rfl, rfl⟩) | (go_at_call 44; refine (vals_c 6 a c A cc v t n o _ _ _ (Kd.C_below HV.out XB.out) (m := 65535) (by decide)).mono ?_; rintro e w2 ⟨rfl, HB⟩; have XBn := Aside0.mk (below_step XB.out HB); have BKn := Aside0.mk (blk_below BK.out HB); obtain ⟨k0, k1, k2, k3, k4, k5, k6⟩ := cells7 BKn.out; clear HB XB BK; have XB := XBn; have BK := BKn))
       go_ret
       exact ⟨rfl, XB.out⟩
     ·have z4 : smB 1 1 65535 v = false := by simpa using hz4
      clear hz4
      have HR : Aside0 (chkB 6 a c v t n o = false) := ⟨by simp_all [chkB, wB] <;> (intros; omega)⟩
      rw [HR.out]
      go_enter Try.func20, Try.ntmps20
      go_wp2_with (first | ((with_reducible refine gate_dst (N := 1) rfl ?_); refine bx_ (N := 1) (cs := #[.int .i64 6, .int .i64 a, .int .i64 c, .slice A v.length cc, .int .i64 t, .int .i64 n, .int .i64 o]) (t := 24) ?_; intro g hg w1 hb HB; have XB := Aside0.mk HB; have BK := Aside0.mk hb; obtain ⟨k0, k1, k2, k3, k4, k5, k6⟩ := cells7 hb; clear hg hb HB) | (go_at_call 45; refine (is_c _ _).mono ?_; rintro e w' ⟨rfl, rfl⟩) | (go_at_call 43; refine (refspan_c _ _ _ (by omega) (by omega)).mono ?_; rintro e w' ⟨rfl, rfl⟩) | (go_at_call 44; refine (vals_c 6 a c A cc v t n o _ _ _ (Kd.C_below HV.out XB.out) (m := 65535) (by decide)).mono ?_; rintro e w2 ⟨rfl, HB⟩; have XBn := Aside0.mk (below_step XB.out HB); have BKn := Aside0.mk (blk_below BK.out HB); obtain ⟨k0, k1, k2, k3, k4, k5, k6⟩ := cells7 BKn.out; clear HB XB BK; have XB := XBn; have BK := BKn))
      go_ret
      exact ⟨rfl, XB.out⟩
    ·have z3 : (c == 0) = false := by simpa using hz3
     clear hz3
     have HR : Aside0 (chkB 6 a c v t n o = false) := ⟨by simp_all [chkB, wB] <;> (intros; omega)⟩
     rw [HR.out]
     go_enter Try.func20, Try.ntmps20
     go_wp2_with (first | ((with_reducible refine gate_dst (N := 1) rfl ?_); refine bx_ (N := 1) (cs := #[.int .i64 6, .int .i64 a, .int .i64 c, .slice A v.length cc, .int .i64 t, .int .i64 n, .int .i64 o]) (t := 24) ?_; intro g hg w1 hb HB; have XB := Aside0.mk HB; have BK := Aside0.mk hb; obtain ⟨k0, k1, k2, k3, k4, k5, k6⟩ := cells7 hb; clear hg hb HB) | (go_at_call 45; refine (is_c _ _).mono ?_; rintro e w' ⟨rfl, rfl⟩) | (go_at_call 43; refine (refspan_c _ _ _ (by omega) (by omega)).mono ?_; rintro e w' ⟨rfl, rfl⟩) | (go_at_call 44; refine (vals_c 6 a c A cc v t n o _ _ _ (Kd.C_below HV.out XB.out) (m := 65535) (by decide)).mono ?_; rintro e w2 ⟨rfl, HB⟩; have XBn := Aside0.mk (below_step XB.out HB); have BKn := Aside0.mk (blk_below BK.out HB); obtain ⟨k0, k1, k2, k3, k4, k5, k6⟩ := cells7 BKn.out; clear HB XB BK; have XB := XBn; have BK := BKn))
     go_ret
     exact ⟨rfl, XB.out⟩
   ·have z2 : (t == 0) = false := by simpa using hz2
    clear hz2
    have HR : Aside0 (chkB 6 a c v t n o = false) := ⟨by simp_all [chkB, wB] <;> (intros; omega)⟩
    rw [HR.out]
    go_enter Try.func20, Try.ntmps20
    go_wp2_with (first | ((with_reducible refine gate_dst (N := 1) rfl ?_); refine bx_ (N := 1) (cs := #[.int .i64 6, .int .i64 a, .int .i64 c, .slice A v.length cc, .int .i64 t, .int .i64 n, .int .i64 o]) (t := 24) ?_; intro g hg w1 hb HB; have XB := Aside0.mk HB; have BK := Aside0.mk hb; obtain ⟨k0, k1, k2, k3, k4, k5, k6⟩ := cells7 hb; clear hg hb HB) | (go_at_call 45; refine (is_c _ _).mono ?_; rintro e w' ⟨rfl, rfl⟩) | (go_at_call 43; refine (refspan_c _ _ _ (by omega) (by omega)).mono ?_; rintro e w' ⟨rfl, rfl⟩) | (go_at_call 44; refine (vals_c 6 a c A cc v t n o _ _ _ (Kd.C_below HV.out XB.out) (m := 65535) (by decide)).mono ?_; rintro e w2 ⟨rfl, HB⟩; have XBn := Aside0.mk (below_step XB.out HB); have BKn := Aside0.mk (blk_below BK.out HB); obtain ⟨k0, k1, k2, k3, k4, k5, k6⟩ := cells7 BKn.out; clear HB XB BK; have XB := XBn; have BK := BKn))
    go_ret
    exact ⟨rfl, XB.out⟩
  ·have z1 : (o == 0) = false := by simpa using hz1
   clear hz1
   have HR : Aside0 (chkB 6 a c v t n o = false) := ⟨by simp_all [chkB, wB] <;> (intros; omega)⟩
   rw [HR.out]
   go_enter Try.func20, Try.ntmps20
   go_wp2_with (first | ((with_reducible refine gate_dst (N := 1) rfl ?_); refine bx_ (N := 1) (cs := #[.int .i64 6, .int .i64 a, .int .i64 c, .slice A v.length cc, .int .i64 t, .int .i64 n, .int .i64 o]) (t := 24) ?_; intro g hg w1 hb HB; have XB := Aside0.mk HB; have BK := Aside0.mk hb; obtain ⟨k0, k1, k2, k3, k4, k5, k6⟩ := cells7 hb; clear hg hb HB) | (go_at_call 45; refine (is_c _ _).mono ?_; rintro e w' ⟨rfl, rfl⟩) | (go_at_call 43; refine (refspan_c _ _ _ (by omega) (by omega)).mono ?_; rintro e w' ⟨rfl, rfl⟩) | (go_at_call 44; refine (vals_c 6 a c A cc v t n o _ _ _ (Kd.C_below HV.out XB.out) (m := 65535) (by decide)).mono ?_; rintro e w2 ⟨rfl, HB⟩; have XBn := Aside0.mk (below_step XB.out HB); have BKn := Aside0.mk (blk_below BK.out HB); obtain ⟨k0, k1, k2, k3, k4, k5, k6⟩ := cells7 BKn.out; clear HB XB BK; have XB := XBn; have BK := BKn))
   go_ret
   exact ⟨rfl, XB.out⟩
 ·have z0 : (n == 0) = false := by simpa using hz0
  clear hz0
  have HR : Aside0 (chkB 6 a c v t n o = false) := ⟨by simp_all [chkB, wB] <;> (intros; omega)⟩
  rw [HR.out]
  go_enter Try.func20, Try.ntmps20
  go_wp2_with (first | ((with_reducible refine gate_dst (N := 1) rfl ?_); refine bx_ (N := 1) (cs := #[.int .i64 6, .int .i64 a, .int .i64 c, .slice A v.length cc, .int .i64 t, .int .i64 n, .int .i64 o]) (t := 24) ?_; intro g hg w1 hb HB; have XB := Aside0.mk HB; have BK := Aside0.mk hb; obtain ⟨k0, k1, k2, k3, k4, k5, k6⟩ := cells7 hb; clear hg hb HB) | (go_at_call 45; refine (is_c _ _).mono ?_; rintro e w' ⟨rfl, rfl⟩) | (go_at_call 43; refine (refspan_c _ _ _ (by omega) (by omega)).mono ?_; rintro e w' ⟨rfl, rfl⟩) | (go_at_call 44; refine (vals_c 6 a c A cc v t n o _ _ _ (Kd.C_below HV.out XB.out) (m := 65535) (by decide)).mono ?_; rintro e w2 ⟨rfl, HB⟩; have XBn := Aside0.mk (below_step XB.out HB); have BKn := Aside0.mk (blk_below BK.out HB); obtain ⟨k0, k1, k2, k3, k4, k5, k6⟩ := cells7 BKn.out; clear HB XB BK; have XB := XBn; have BK := BKn))
  go_ret
  exact ⟨rfl, XB.out⟩
end Go.Proofs.Ytocicifgglkaeaa.Chk
end

section
namespace Go.Proofs.Ytocicifgglkaeaa.Chk
open Go.RowKit Go.Proofs.YtocicifgglkaeaaW.PrintWords Go.Proofs.YtocicifgglkaeaaW.PrintLast Go.Proofs.YtocicifgglkaeaaW.PrintMore Go.Proofs.Ytocicifgglkaeaa.Core Go.Proofs.Ytocicifgglkaeaa.Wk
set_option linter.unusedVariables false
set_option linter.unusedSimpArgs false
set_option maxHeartbeats 4000000 in
set_option maxRecDepth 100000 in
theorem may_15 (a c : Int) (A : Option Addr) (cc : Nat) (v : List Int) (t n o : Int) (w : World) (hV : Kd.C (Kd.int .i64) w A v.length v) : Calls Try.prog 20 #[.agg #[.int .i64 15, .int .i64 a, .int .i64 c, .slice A v.length cc, .int .i64 t, .int .i64 n, .int .i64 o]] w fun e w' => e = .returned (.bool (chkB 15 a c v t n o)) ∧ Below w.heap.size w w' := by
 have HV := Aside0.mk hV; clear hV
 by_cases hz0 : (n == 0) = true
 ·have z0 : (n == 0) = true := hz0; clear hz0
  by_cases hz1 : (o == 0) = true
  ·have z1 : (o == 0) = true := hz1; clear hz1
   by_cases hz2 : (t == 0) = true
   ·have z2 : (t == 0) = true := hz2; clear hz2
    by_cases hz3 : (c == (v.length : Int)) = true
    ·have z3 : (c == (v.length : Int)) = true := hz3; clear hz3
     by_cases hz4 : smB 1 1968 1 v = true
     ·have z4 : smB 1 1968 1 v = true := hz4; clear hz4; have pz4 := smB_len z4
      by_cases hz5 : spB a v.length = true
      ·have z5 : spB a v.length = true := hz5; clear hz5
       have HR : Aside0 (chkB 15 a c v t n o = true) := ⟨by simp_all [chkB, wB] <;> (intros; omega)⟩
       rw [HR.out]
       go_enter Try.func20, Try.ntmps20
       go_wp2_with (first | ((with_reducible refine gate_dst (N := 1) rfl ?_); refine bx_ (N := 1) (cs := #[.int .i64 15, .int .i64 a, .int .i64 c, .slice A v.length cc, .int .i64 t, .int .i64 n, .int .i64 o]) (t := 24) ?_; intro g hg w1 hb HB; have XB := Aside0.mk HB; have BK := Aside0.mk hb; obtain ⟨k0, k1, k2, k3, k4, k5, k6⟩ := cells7 hb; clear hg hb HB) | (go_at_call 45; refine (is_c _ _).mono ?_; rintro e w' ⟨rfl, rfl⟩) | (go_at_call 43; refine (refspan_c _ _ _ (by omega) (by omega)).mono ?_; rintro e w' ⟨rfl, rfl⟩) | (go_at_call 44; refine (vals_c 15 a c A cc v t n o _ _ _ (Kd.C_below HV.out XB.out) (m := 1) (by decide)).mono ?_; rintro e w2 ⟨rfl, HB⟩; have XBn := Aside0.mk (below_step XB.out HB); have BKn := Aside0.mk (blk_below BK.out HB); obtain ⟨k0, k1, k2, k3, k4, k5, k6⟩ := cells7 BKn.out; clear HB XB BK; have XB := XBn; have BK := BKn))
       go_ret
       exact ⟨rfl, XB.out⟩
      ·have z5 : spB a v.length = false := by simpa using hz5
       clear hz5
       have HR : Aside0 (chkB 15 a c v t n o = false) := ⟨by simp_all [chkB, wB] <;> (intros; omega)⟩
       rw [HR.out]
       go_enter Try.func20, Try.ntmps20
       go_wp2_with (first | ((with_reducible refine gate_dst (N := 1) rfl ?_); refine bx_ (N := 1) (cs := #[.int .i64 15, .int .i64 a, .int .i64 c, .slice A v.length cc, .int .i64 t, .int .i64 n, .int .i64 o]) (t := 24) ?_; intro g hg w1 hb HB; have XB := Aside0.mk HB; have BK := Aside0.mk hb; obtain ⟨k0, k1, k2, k3, k4, k5, k6⟩ := cells7 hb; clear hg hb HB) | (go_at_call 45; refine (is_c _ _).mono ?_; rintro e w' ⟨rfl, rfl⟩) | (go_at_call 43; refine (refspan_c _ _ _ (by omega) (by omega)).mono ?_; rintro e w' ⟨rfl, rfl⟩) | (go_at_call 44; refine (vals_c 15 a c A cc v t n o _ _ _ (Kd.C_below HV.out XB.out) (m := 1) (by decide)).mono ?_; rintro e w2 ⟨rfl, HB⟩; have XBn := Aside0.mk (below_step XB.out HB); have BKn := Aside0.mk (blk_below BK.out HB); obtain ⟨k0, k1, k2, k3, k4, k5, k6⟩ := cells7 BKn.out; clear HB XB BK; have XB := XBn; have BK := BKn))
       go_ret
       exact ⟨rfl, XB.out⟩
     ·have z4 : smB 1 1968 1 v = false := by simpa using hz4
      clear hz4
      have HR : Aside0 (chkB 15 a c v t n o = false) := ⟨by simp_all [chkB, wB] <;> (intros; omega)⟩
      rw [HR.out]
      go_enter Try.func20, Try.ntmps20
      go_wp2_with (first | ((with_reducible refine gate_dst (N := 1) rfl ?_); refine bx_ (N := 1) (cs := #[.int .i64 15, .int .i64 a, .int .i64 c, .slice A v.length cc, .int .i64 t, .int .i64 n, .int .i64 o]) (t := 24) ?_; intro g hg w1 hb HB; have XB := Aside0.mk HB; have BK := Aside0.mk hb; obtain ⟨k0, k1, k2, k3, k4, k5, k6⟩ := cells7 hb; clear hg hb HB) | (go_at_call 45; refine (is_c _ _).mono ?_; rintro e w' ⟨rfl, rfl⟩) | (go_at_call 43; refine (refspan_c _ _ _ (by omega) (by omega)).mono ?_; rintro e w' ⟨rfl, rfl⟩) | (go_at_call 44; refine (vals_c 15 a c A cc v t n o _ _ _ (Kd.C_below HV.out XB.out) (m := 1) (by decide)).mono ?_; rintro e w2 ⟨rfl, HB⟩; have XBn := Aside0.mk (below_step XB.out HB); have BKn := Aside0.mk (blk_below BK.out HB); obtain ⟨k0, k1, k2, k3, k4, k5, k6⟩ := cells7 BKn.out; clear HB XB BK; have XB := XBn; have BK := BKn))
      go_ret
      exact ⟨rfl, XB.out⟩
    ·have z3 : (c == (v.length : Int)) = false := by simpa using hz3
     clear hz3
     have HR : Aside0 (chkB 15 a c v t n o = false) := ⟨by simp_all [chkB, wB] <;> (intros; omega)⟩
     rw [HR.out]
     go_enter Try.func20, Try.ntmps20
     go_wp2_with (first | ((with_reducible refine gate_dst (N := 1) rfl ?_); refine bx_ (N := 1) (cs := #[.int .i64 15, .int .i64 a, .int .i64 c, .slice A v.length cc, .int .i64 t, .int .i64 n, .int .i64 o]) (t := 24) ?_; intro g hg w1 hb HB; have XB := Aside0.mk HB; have BK := Aside0.mk hb; obtain ⟨k0, k1, k2, k3, k4, k5, k6⟩ := cells7 hb; clear hg hb HB) | (go_at_call 45; refine (is_c _ _).mono ?_; rintro e w' ⟨rfl, rfl⟩) | (go_at_call 43; refine (refspan_c _ _ _ (by omega) (by omega)).mono ?_; rintro e w' ⟨rfl, rfl⟩) | (go_at_call 44; refine (vals_c 15 a c A cc v t n o _ _ _ (Kd.C_below HV.out XB.out) (m := 1) (by decide)).mono ?_; rintro e w2 ⟨rfl, HB⟩; have XBn := Aside0.mk (below_step XB.out HB); have BKn := Aside0.mk (blk_below BK.out HB); obtain ⟨k0, k1, k2, k3, k4, k5, k6⟩ := cells7 BKn.out; clear HB XB BK; have XB := XBn; have BK := BKn))
     go_ret
     exact ⟨rfl, XB.out⟩
   ·have z2 : (t == 0) = false := by simpa using hz2
    clear hz2
    have HR : Aside0 (chkB 15 a c v t n o = false) := ⟨by simp_all [chkB, wB] <;> (intros; omega)⟩
    rw [HR.out]
    go_enter Try.func20, Try.ntmps20
    go_wp2_with (first | ((with_reducible refine gate_dst (N := 1) rfl ?_); refine bx_ (N := 1) (cs := #[.int .i64 15, .int .i64 a, .int .i64 c, .slice A v.length cc, .int .i64 t, .int .i64 n, .int .i64 o]) (t := 24) ?_; intro g hg w1 hb HB; have XB := Aside0.mk HB; have BK := Aside0.mk hb; obtain ⟨k0, k1, k2, k3, k4, k5, k6⟩ := cells7 hb; clear hg hb HB) | (go_at_call 45; refine (is_c _ _).mono ?_; rintro e w' ⟨rfl, rfl⟩) | (go_at_call 43; refine (refspan_c _ _ _ (by omega) (by omega)).mono ?_; rintro e w' ⟨rfl, rfl⟩) | (go_at_call 44; refine (vals_c 15 a c A cc v t n o _ _ _ (Kd.C_below HV.out XB.out) (m := 1) (by decide)).mono ?_; rintro e w2 ⟨rfl, HB⟩; have XBn := Aside0.mk (below_step XB.out HB); have BKn := Aside0.mk (blk_below BK.out HB); obtain ⟨k0, k1, k2, k3, k4, k5, k6⟩ := cells7 BKn.out; clear HB XB BK; have XB := XBn; have BK := BKn))
    go_ret
    exact ⟨rfl, XB.out⟩
  ·have z1 : (o == 0) = false := by simpa using hz1
   clear hz1
   have HR : Aside0 (chkB 15 a c v t n o = false) := ⟨by simp_all [chkB, wB] <;> (intros; omega)⟩
   rw [HR.out]
   go_enter Try.func20, Try.ntmps20
   go_wp2_with (first | ((with_reducible refine gate_dst (N := 1) rfl ?_); refine bx_ (N := 1) (cs := #[.int .i64 15, .int .i64 a, .int .i64 c, .slice A v.length cc, .int .i64 t, .int .i64 n, .int .i64 o]) (t := 24) ?_; intro g hg w1 hb HB; have XB := Aside0.mk HB; have BK := Aside0.mk hb; obtain ⟨k0, k1, k2, k3, k4, k5, k6⟩ := cells7 hb; clear hg hb HB) | (go_at_call 45; refine (is_c _ _).mono ?_; rintro e w' ⟨rfl, rfl⟩) | (go_at_call 43; refine (refspan_c _ _ _ (by omega) (by omega)).mono ?_; rintro e w' ⟨rfl, rfl⟩) | (go_at_call 44; refine (vals_c 15 a c A cc v t n o _ _ _ (Kd.C_below HV.out XB.out) (m := 1) (by decide)).mono ?_; rintro e w2 ⟨rfl, HB⟩; have XBn := Aside0.mk (below_step XB.out HB); have BKn := Aside0.mk (blk_below BK.out HB); obtain ⟨k0, k1, k2, k3, k4, k5, k6⟩ := cells7 BKn.out; clear HB XB BK; have XB := XBn; have BK := BKn))
   go_ret
   exact ⟨rfl, XB.out⟩
 ·have z0 : (n == 0) = false := by simpa using hz0
  clear hz0
  have HR : Aside0 (chkB 15 a c v t n o = false) := ⟨by simp_all [chkB, wB] <;> (intros; omega)⟩
  rw [HR.out]
  go_enter Try.func20, Try.ntmps20
  go_wp2_with (first | ((with_reducible refine gate_dst (N := 1) rfl ?_); refine bx_ (N := 1) (cs := #[.int .i64 15, .int .i64 a, .int .i64 c, .slice A v.length cc, .int .i64 t, .int .i64 n, .int .i64 o]) (t := 24) ?_; intro g hg w1 hb HB; have XB := Aside0.mk HB; have BK := Aside0.mk hb; obtain ⟨k0, k1, k2, k3, k4, k5, k6⟩ := cells7 hb; clear hg hb HB) | (go_at_call 45; refine (is_c _ _).mono ?_; rintro e w' ⟨rfl, rfl⟩) | (go_at_call 43; refine (refspan_c _ _ _ (by omega) (by omega)).mono ?_; rintro e w' ⟨rfl, rfl⟩) | (go_at_call 44; refine (vals_c 15 a c A cc v t n o _ _ _ (Kd.C_below HV.out XB.out) (m := 1) (by decide)).mono ?_; rintro e w2 ⟨rfl, HB⟩; have XBn := Aside0.mk (below_step XB.out HB); have BKn := Aside0.mk (blk_below BK.out HB); obtain ⟨k0, k1, k2, k3, k4, k5, k6⟩ := cells7 BKn.out; clear HB XB BK; have XB := XBn; have BK := BKn))
  go_ret
  exact ⟨rfl, XB.out⟩
set_option maxHeartbeats 4000000 in
set_option maxRecDepth 100000 in
theorem may_16 (a c : Int) (A : Option Addr) (cc : Nat) (v : List Int) (t n o : Int) (w : World) (hV : Kd.C (Kd.int .i64) w A v.length v) : Calls Try.prog 20 #[.agg #[.int .i64 16, .int .i64 a, .int .i64 c, .slice A v.length cc, .int .i64 t, .int .i64 n, .int .i64 o]] w fun e w' => e = .returned (.bool (chkB 16 a c v t n o)) ∧ Below w.heap.size w w' := by
 have HV := Aside0.mk hV; clear hV
 by_cases hz0 : (n == 0) = true
 ·have z0 : (n == 0) = true := hz0; clear hz0
  by_cases hz1 : (o == 0) = true
  ·have z1 : (o == 0) = true := hz1; clear hz1
   by_cases hz2 : (t == 0) = true
   ·have z2 : (t == 0) = true := hz2; clear hz2
    by_cases hz3 : (c == (v.length : Int)) = true
    ·have z3 : (c == (v.length : Int)) = true := hz3; clear hz3
     by_cases hz4 : smB 1 123 65535 v = true
     ·have z4 : smB 1 123 65535 v = true := hz4; clear hz4; have pz4 := smB_len z4
      by_cases hz5 : spB a v.length = true
      ·have z5 : spB a v.length = true := hz5; clear hz5
       have HR : Aside0 (chkB 16 a c v t n o = true) := ⟨by simp_all [chkB, wB] <;> (intros; omega)⟩
       rw [HR.out]
       go_enter Try.func20, Try.ntmps20
       go_wp2_with (first | ((with_reducible refine gate_dst (N := 1) rfl ?_); refine bx_ (N := 1) (cs := #[.int .i64 16, .int .i64 a, .int .i64 c, .slice A v.length cc, .int .i64 t, .int .i64 n, .int .i64 o]) (t := 24) ?_; intro g hg w1 hb HB; have XB := Aside0.mk HB; have BK := Aside0.mk hb; obtain ⟨k0, k1, k2, k3, k4, k5, k6⟩ := cells7 hb; clear hg hb HB) | (go_at_call 45; refine (is_c _ _).mono ?_; rintro e w' ⟨rfl, rfl⟩) | (go_at_call 43; refine (refspan_c _ _ _ (by omega) (by omega)).mono ?_; rintro e w' ⟨rfl, rfl⟩) | (go_at_call 44; refine (vals_c 16 a c A cc v t n o _ _ _ (Kd.C_below HV.out XB.out) (m := 65535) (by decide)).mono ?_; rintro e w2 ⟨rfl, HB⟩; have XBn := Aside0.mk (below_step XB.out HB); have BKn := Aside0.mk (blk_below BK.out HB); obtain ⟨k0, k1, k2, k3, k4, k5, k6⟩ := cells7 BKn.out; clear HB XB BK; have XB := XBn; have BK := BKn))
       go_ret
       exact ⟨rfl, XB.out⟩
      ·have z5 : spB a v.length = false := by simpa using hz5
       clear hz5
       have HR : Aside0 (chkB 16 a c v t n o = false) := ⟨by simp_all [chkB, wB] <;> (intros; omega)⟩
       rw [HR.out]
       go_enter Try.func20, Try.ntmps20
       go_wp2_with (first | ((with_reducible refine gate_dst (N := 1) rfl ?_); refine bx_ (N := 1) (cs := #[.int .i64 16, .int .i64 a, .int .i64 c, .slice A v.length cc, .int .i64 t, .int .i64 n, .int .i64 o]) (t := 24) ?_; intro g hg w1 hb HB; have XB := Aside0.mk HB; have BK := Aside0.mk hb; obtain ⟨k0, k1, k2, k3, k4, k5, k6⟩ := cells7 hb; clear hg hb HB) | (go_at_call 45; refine (is_c _ _).mono ?_; rintro e w' ⟨rfl, rfl⟩) | (go_at_call 43; refine (refspan_c _ _ _ (by omega) (by omega)).mono ?_; rintro e w' ⟨rfl, rfl⟩) | (go_at_call 44; refine (vals_c 16 a c A cc v t n o _ _ _ (Kd.C_below HV.out XB.out) (m := 65535) (by decide)).mono ?_; rintro e w2 ⟨rfl, HB⟩; have XBn := Aside0.mk (below_step XB.out HB); have BKn := Aside0.mk (blk_below BK.out HB); obtain ⟨k0, k1, k2, k3, k4, k5, k6⟩ := cells7 BKn.out; clear HB XB BK; have XB := XBn; have BK := BKn))
       go_ret
       exact ⟨rfl, XB.out⟩
     ·have z4 : smB 1 123 65535 v = false := by simpa using hz4
      clear hz4
      have HR : Aside0 (chkB 16 a c v t n o = false) := ⟨by simp_all [chkB, wB] <;> (intros; omega)⟩
      rw [HR.out]
      go_enter Try.func20, Try.ntmps20
      go_wp2_with (first | ((with_reducible refine gate_dst (N := 1) rfl ?_); refine bx_ (N := 1) (cs := #[.int .i64 16, .int .i64 a, .int .i64 c, .slice A v.length cc, .int .i64 t, .int .i64 n, .int .i64 o]) (t := 24) ?_; intro g hg w1 hb HB; have XB := Aside0.mk HB; have BK := Aside0.mk hb; obtain ⟨k0, k1, k2, k3, k4, k5, k6⟩ := cells7 hb; clear hg hb HB) | (go_at_call 45; refine (is_c _ _).mono ?_; rintro e w' ⟨rfl, rfl⟩) | (go_at_call 43; refine (refspan_c _ _ _ (by omega) (by omega)).mono ?_; rintro e w' ⟨rfl, rfl⟩) | (go_at_call 44; refine (vals_c 16 a c A cc v t n o _ _ _ (Kd.C_below HV.out XB.out) (m := 65535) (by decide)).mono ?_; rintro e w2 ⟨rfl, HB⟩; have XBn := Aside0.mk (below_step XB.out HB); have BKn := Aside0.mk (blk_below BK.out HB); obtain ⟨k0, k1, k2, k3, k4, k5, k6⟩ := cells7 BKn.out; clear HB XB BK; have XB := XBn; have BK := BKn))
      go_ret
      exact ⟨rfl, XB.out⟩
    ·have z3 : (c == (v.length : Int)) = false := by simpa using hz3
     clear hz3
     have HR : Aside0 (chkB 16 a c v t n o = false) := ⟨by simp_all [chkB, wB] <;> (intros; omega)⟩
     rw [HR.out]
     go_enter Try.func20, Try.ntmps20
     go_wp2_with (first | ((with_reducible refine gate_dst (N := 1) rfl ?_); refine bx_ (N := 1) (cs := #[.int .i64 16, .int .i64 a, .int .i64 c, .slice A v.length cc, .int .i64 t, .int .i64 n, .int .i64 o]) (t := 24) ?_; intro g hg w1 hb HB; have XB := Aside0.mk HB; have BK := Aside0.mk hb; obtain ⟨k0, k1, k2, k3, k4, k5, k6⟩ := cells7 hb; clear hg hb HB) | (go_at_call 45; refine (is_c _ _).mono ?_; rintro e w' ⟨rfl, rfl⟩) | (go_at_call 43; refine (refspan_c _ _ _ (by omega) (by omega)).mono ?_; rintro e w' ⟨rfl, rfl⟩) | (go_at_call 44; refine (vals_c 16 a c A cc v t n o _ _ _ (Kd.C_below HV.out XB.out) (m := 65535) (by decide)).mono ?_; rintro e w2 ⟨rfl, HB⟩; have XBn := Aside0.mk (below_step XB.out HB); have BKn := Aside0.mk (blk_below BK.out HB); obtain ⟨k0, k1, k2, k3, k4, k5, k6⟩ := cells7 BKn.out; clear HB XB BK; have XB := XBn; have BK := BKn))
     go_ret
     exact ⟨rfl, XB.out⟩
   ·have z2 : (t == 0) = false := by simpa using hz2
    clear hz2
    have HR : Aside0 (chkB 16 a c v t n o = false) := ⟨by simp_all [chkB, wB] <;> (intros; omega)⟩
    rw [HR.out]
    go_enter Try.func20, Try.ntmps20
    go_wp2_with (first | ((with_reducible refine gate_dst (N := 1) rfl ?_); refine bx_ (N := 1) (cs := #[.int .i64 16, .int .i64 a, .int .i64 c, .slice A v.length cc, .int .i64 t, .int .i64 n, .int .i64 o]) (t := 24) ?_; intro g hg w1 hb HB; have XB := Aside0.mk HB; have BK := Aside0.mk hb; obtain ⟨k0, k1, k2, k3, k4, k5, k6⟩ := cells7 hb; clear hg hb HB) | (go_at_call 45; refine (is_c _ _).mono ?_; rintro e w' ⟨rfl, rfl⟩) | (go_at_call 43; refine (refspan_c _ _ _ (by omega) (by omega)).mono ?_; rintro e w' ⟨rfl, rfl⟩) | (go_at_call 44; refine (vals_c 16 a c A cc v t n o _ _ _ (Kd.C_below HV.out XB.out) (m := 65535) (by decide)).mono ?_; rintro e w2 ⟨rfl, HB⟩; have XBn := Aside0.mk (below_step XB.out HB); have BKn := Aside0.mk (blk_below BK.out HB); obtain ⟨k0, k1, k2, k3, k4, k5, k6⟩ := cells7 BKn.out; clear HB XB BK; have XB := XBn; have BK := BKn))
    go_ret
    exact ⟨rfl, XB.out⟩
  ·have z1 : (o == 0) = false := by simpa using hz1
   clear hz1
   have HR : Aside0 (chkB 16 a c v t n o = false) := ⟨by simp_all [chkB, wB] <;> (intros; omega)⟩
   rw [HR.out]
   go_enter Try.func20, Try.ntmps20
   go_wp2_with (first | ((with_reducible refine gate_dst (N := 1) rfl ?_); refine bx_ (N := 1) (cs := #[.int .i64 16, .int .i64 a, .int .i64 c, .slice A v.length cc, .int .i64 t, .int .i64 n, .int .i64 o]) (t := 24) ?_; intro g hg w1 hb HB; have XB := Aside0.mk HB; have BK := Aside0.mk hb; obtain ⟨k0, k1, k2, k3, k4, k5, k6⟩ := cells7 hb; clear hg hb HB) | (go_at_call 45; refine (is_c _ _).mono ?_; rintro e w' ⟨rfl, rfl⟩) | (go_at_call 43; refine (refspan_c _ _ _ (by omega) (by omega)).mono ?_; rintro e w' ⟨rfl, rfl⟩) | (go_at_call 44; refine (vals_c 16 a c A cc v t n o _ _ _ (Kd.C_below HV.out XB.out) (m := 65535) (by decide)).mono ?_; rintro e w2 ⟨rfl, HB⟩; have XBn := Aside0.mk (below_step XB.out HB); have BKn := Aside0.mk (blk_below BK.out HB); obtain ⟨k0, k1, k2, k3, k4, k5, k6⟩ := cells7 BKn.out; clear HB XB BK; have XB := XBn; have BK := BKn))
   go_ret
   exact ⟨rfl, XB.out⟩
 ·have z0 : (n == 0) = false := by simpa using hz0
  clear hz0
  have HR : Aside0 (chkB 16 a c v t n o = false) := ⟨by simp_all [chkB, wB] <;> (intros; omega)⟩
  rw [HR.out]
  go_enter Try.func20, Try.ntmps20
  go_wp2_with (first | ((with_reducible refine gate_dst (N := 1) rfl ?_); refine bx_ (N := 1) (cs := #[.int .i64 16, .int .i64 a, .int .i64 c, .slice A v.length cc, .int .i64 t, .int .i64 n, .int .i64 o]) (t := 24) ?_; intro g hg w1 hb HB; have XB := Aside0.mk HB; have BK := Aside0.mk hb; obtain ⟨k0, k1, k2, k3, k4, k5, k6⟩ := cells7 hb; clear hg hb HB) | (go_at_call 45; refine (is_c _ _).mono ?_; rintro e w' ⟨rfl, rfl⟩) | (go_at_call 43; refine (refspan_c _ _ _ (by omega) (by omega)).mono ?_; rintro e w' ⟨rfl, rfl⟩) | (go_at_call 44; refine (vals_c 16 a c A cc v t n o _ _ _ (Kd.C_below HV.out XB.out) (m := 65535) (by decide)).mono ?_; rintro e w2 ⟨rfl, HB⟩; have XBn := Aside0.mk (below_step XB.out HB); have BKn := Aside0.mk (blk_below BK.out HB); obtain ⟨k0, k1, k2, k3, k4, k5, k6⟩ := cells7 BKn.out; clear HB XB BK; have XB := XBn; have BK := BKn))
  go_ret
  exact ⟨rfl, XB.out⟩
end Go.Proofs.Ytocicifgglkaeaa.Chk
end

section
namespace Go.Proofs.Ytocicifgglkaeaa.Chk
open Go.RowKit Go.Proofs.YtocicifgglkaeaaW.PrintWords Go.Proofs.YtocicifgglkaeaaW.PrintLast Go.Proofs.YtocicifgglkaeaaW.PrintMore Go.Proofs.Ytocicifgglkaeaa.Core Go.Proofs.Ytocicifgglkaeaa.Wk
set_option linter.unusedVariables false
set_option linter.unusedSimpArgs false
set_option maxHeartbeats 4000000 in
set_option maxRecDepth 100000 in
theorem may_22 (a c : Int) (A : Option Addr) (cc : Nat) (v : List Int) (t n o : Int) (w : World) (hV : Kd.C (Kd.int .i64) w A v.length v) : Calls Try.prog 20 #[.agg #[.int .i64 22, .int .i64 a, .int .i64 c, .slice A v.length cc, .int .i64 t, .int .i64 n, .int .i64 o]] w fun e w' => e = .returned (.bool (chkB 22 a c v t n o)) ∧ Below w.heap.size w w' := by
 have HV := Aside0.mk hV; clear hV
 by_cases hz0 : (n == 0) = true
 ·have z0 : (n == 0) = true := hz0; clear hz0
  by_cases hz1 : (o == 0) = true
  ·have z1 : (o == 0) = true := hz1; clear hz1
   by_cases hz2 : ((v.length : Int) == 0) = true
   ·have z2 : ((v.length : Int) == 0) = true := hz2; clear hz2
    by_cases hz3 : (t == 0) = true
    ·have z3 : (t == 0) = true := hz3; clear hz3
     by_cases hz4 : (c == 0) = true
     ·have z4 : (c == 0) = true := hz4; clear hz4
      by_cases hz5 : spB a 1 = true
      ·have z5 : spB a 1 = true := hz5; clear hz5
       by_cases hz6 : wB 0 65535 n = true
       ·have z6 : wB 0 65535 n = true := hz6; clear hz6
        by_cases hz7 : wB 0 65535 o = true
        ·have z7 : wB 0 65535 o = true := hz7; clear hz7
         have HR : Aside0 (chkB 22 a c v t n o = true) := ⟨by simp_all [chkB]⟩
         rw [HR.out]
         go_enter Try.func20, Try.ntmps20
         go_wp2_with (first | ((with_reducible refine gate_dst (N := 1) rfl ?_); refine bx_ (N := 1) (cs := #[.int .i64 22, .int .i64 a, .int .i64 c, .slice A v.length cc, .int .i64 t, .int .i64 n, .int .i64 o]) (t := 24) ?_; intro g hg w1 hb HB; have XB := Aside0.mk HB; have BK := Aside0.mk hb; obtain ⟨k0, k1, k2, k3, k4, k5, k6⟩ := cells7 hb; clear hg hb HB) | (go_at_call 45; refine (is_c _ _).mono ?_; rintro e w' ⟨rfl, rfl⟩) | (go_at_call 43; refine (refspan_c _ _ _ (by omega) (by omega)).mono ?_; rintro e w' ⟨rfl, rfl⟩))
         go_ret
         exact ⟨rfl, XB.out⟩
        ·have z7 : wB 0 65535 o = false := by simpa using hz7
         clear hz7
         have HR : Aside0 (chkB 22 a c v t n o = false) := ⟨by simp_all [chkB]⟩
         rw [HR.out]
         go_enter Try.func20, Try.ntmps20
         go_wp2_with (first | ((with_reducible refine gate_dst (N := 1) rfl ?_); refine bx_ (N := 1) (cs := #[.int .i64 22, .int .i64 a, .int .i64 c, .slice A v.length cc, .int .i64 t, .int .i64 n, .int .i64 o]) (t := 24) ?_; intro g hg w1 hb HB; have XB := Aside0.mk HB; have BK := Aside0.mk hb; obtain ⟨k0, k1, k2, k3, k4, k5, k6⟩ := cells7 hb; clear hg hb HB) | (go_at_call 45; refine (is_c _ _).mono ?_; rintro e w' ⟨rfl, rfl⟩) | (go_at_call 43; refine (refspan_c _ _ _ (by omega) (by omega)).mono ?_; rintro e w' ⟨rfl, rfl⟩))
         go_ret
         exact ⟨rfl, XB.out⟩
       ·have z6 : wB 0 65535 n = false := by simpa using hz6
        clear hz6
        have HR : Aside0 (chkB 22 a c v t n o = false) := ⟨by simp_all [chkB]⟩
        rw [HR.out]
        go_enter Try.func20, Try.ntmps20
        go_wp2_with (first | ((with_reducible refine gate_dst (N := 1) rfl ?_); refine bx_ (N := 1) (cs := #[.int .i64 22, .int .i64 a, .int .i64 c, .slice A v.length cc, .int .i64 t, .int .i64 n, .int .i64 o]) (t := 24) ?_; intro g hg w1 hb HB; have XB := Aside0.mk HB; have BK := Aside0.mk hb; obtain ⟨k0, k1, k2, k3, k4, k5, k6⟩ := cells7 hb; clear hg hb HB) | (go_at_call 45; refine (is_c _ _).mono ?_; rintro e w' ⟨rfl, rfl⟩) | (go_at_call 43; refine (refspan_c _ _ _ (by omega) (by omega)).mono ?_; rintro e w' ⟨rfl, rfl⟩))
        go_ret
        exact ⟨rfl, XB.out⟩
      ·have z5 : spB a 1 = false := by simpa using hz5
       clear hz5
       have HR : Aside0 (chkB 22 a c v t n o = false) := ⟨by simp_all [chkB]⟩
       rw [HR.out]
       go_enter Try.func20, Try.ntmps20
       go_wp2_with (first | ((with_reducible refine gate_dst (N := 1) rfl ?_); refine bx_ (N := 1) (cs := #[.int .i64 22, .int .i64 a, .int .i64 c, .slice A v.length cc, .int .i64 t, .int .i64 n, .int .i64 o]) (t := 24) ?_; intro g hg w1 hb HB; have XB := Aside0.mk HB; have BK := Aside0.mk hb; obtain ⟨k0, k1, k2, k3, k4, k5, k6⟩ := cells7 hb; clear hg hb HB) | (go_at_call 45; refine (is_c _ _).mono ?_; rintro e w' ⟨rfl, rfl⟩) | (go_at_call 43; refine (refspan_c _ _ _ (by omega) (by omega)).mono ?_; rintro e w' ⟨rfl, rfl⟩))
       go_ret
       exact ⟨rfl, XB.out⟩
     ·have z4 : (c == 0) = false := by simpa using hz4
      clear hz4
      have HR : Aside0 (chkB 22 a c v t n o = false) := ⟨by simp_all [chkB]⟩
      rw [HR.out]
      go_enter Try.func20, Try.ntmps20
      go_wp2_with (first | ((with_reducible refine gate_dst (N := 1) rfl ?_); refine bx_ (N := 1) (cs := #[.int .i64 22, .int .i64 a, .int .i64 c, .slice A v.length cc, .int .i64 t, .int .i64 n, .int .i64 o]) (t := 24) ?_; intro g hg w1 hb HB; have XB := Aside0.mk HB; have BK := Aside0.mk hb; obtain ⟨k0, k1, k2, k3, k4, k5, k6⟩ := cells7 hb; clear hg hb HB) | (go_at_call 45; refine (is_c _ _).mono ?_; rintro e w' ⟨rfl, rfl⟩) | (go_at_call 43; refine (refspan_c _ _ _ (by omega) (by omega)).mono ?_; rintro e w' ⟨rfl, rfl⟩))
      go_ret
      exact ⟨rfl, XB.out⟩
    ·have z3 : (t == 0) = false := by simpa using hz3
     clear hz3
     have HR : Aside0 (chkB 22 a c v t n o = false) := ⟨by simp_all [chkB]⟩
     rw [HR.out]
     go_enter Try.func20, Try.ntmps20
     go_wp2_with (first | ((with_reducible refine gate_dst (N := 1) rfl ?_); refine bx_ (N := 1) (cs := #[.int .i64 22, .int .i64 a, .int .i64 c, .slice A v.length cc, .int .i64 t, .int .i64 n, .int .i64 o]) (t := 24) ?_; intro g hg w1 hb HB; have XB := Aside0.mk HB; have BK := Aside0.mk hb; obtain ⟨k0, k1, k2, k3, k4, k5, k6⟩ := cells7 hb; clear hg hb HB) | (go_at_call 45; refine (is_c _ _).mono ?_; rintro e w' ⟨rfl, rfl⟩) | (go_at_call 43; refine (refspan_c _ _ _ (by omega) (by omega)).mono ?_; rintro e w' ⟨rfl, rfl⟩))
     go_ret
     exact ⟨rfl, XB.out⟩
   ·have z2 : ((v.length : Int) == 0) = false := by simpa using hz2
    clear hz2
    have HR : Aside0 (chkB 22 a c v t n o = false) := ⟨by simp_all [chkB]⟩
    rw [HR.out]
    go_enter Try.func20, Try.ntmps20
    go_wp2_with (first | ((with_reducible refine gate_dst (N := 1) rfl ?_); refine bx_ (N := 1) (cs := #[.int .i64 22, .int .i64 a, .int .i64 c, .slice A v.length cc, .int .i64 t, .int .i64 n, .int .i64 o]) (t := 24) ?_; intro g hg w1 hb HB; have XB := Aside0.mk HB; have BK := Aside0.mk hb; obtain ⟨k0, k1, k2, k3, k4, k5, k6⟩ := cells7 hb; clear hg hb HB) | (go_at_call 45; refine (is_c _ _).mono ?_; rintro e w' ⟨rfl, rfl⟩) | (go_at_call 43; refine (refspan_c _ _ _ (by omega) (by omega)).mono ?_; rintro e w' ⟨rfl, rfl⟩))
    go_ret
    exact ⟨rfl, XB.out⟩
  ·have z1 : (o == 0) = false := by simpa using hz1
   clear hz1
   by_cases hz2 : ((v.length : Int) == 0) = true
   ·have z2 : ((v.length : Int) == 0) = true := hz2; clear hz2
    by_cases hz3 : (t == 0) = true
    ·have z3 : (t == 0) = true := hz3; clear hz3
     by_cases hz4 : (c == 0) = true
     ·have z4 : (c == 0) = true := hz4; clear hz4
      by_cases hz5 : spB a 1 = true
      ·have z5 : spB a 1 = true := hz5; clear hz5
       by_cases hz6 : wB 0 65535 n = true
       ·have z6 : wB 0 65535 n = true := hz6; clear hz6
        by_cases hz7 : wB 0 65535 o = true
        ·have z7 : wB 0 65535 o = true := hz7; clear hz7
         have HR : Aside0 (chkB 22 a c v t n o = true) := ⟨by simp_all [chkB]⟩
         rw [HR.out]
         go_enter Try.func20, Try.ntmps20
         go_wp2_with (first | ((with_reducible refine gate_dst (N := 1) rfl ?_); refine bx_ (N := 1) (cs := #[.int .i64 22, .int .i64 a, .int .i64 c, .slice A v.length cc, .int .i64 t, .int .i64 n, .int .i64 o]) (t := 24) ?_; intro g hg w1 hb HB; have XB := Aside0.mk HB; have BK := Aside0.mk hb; obtain ⟨k0, k1, k2, k3, k4, k5, k6⟩ := cells7 hb; clear hg hb HB) | (go_at_call 45; refine (is_c _ _).mono ?_; rintro e w' ⟨rfl, rfl⟩) | (go_at_call 43; refine (refspan_c _ _ _ (by omega) (by omega)).mono ?_; rintro e w' ⟨rfl, rfl⟩))
         go_ret
         exact ⟨rfl, XB.out⟩
        ·have z7 : wB 0 65535 o = false := by simpa using hz7
         clear hz7
         have HR : Aside0 (chkB 22 a c v t n o = false) := ⟨by simp_all [chkB]⟩
         rw [HR.out]
         go_enter Try.func20, Try.ntmps20
         go_wp2_with (first | ((with_reducible refine gate_dst (N := 1) rfl ?_); refine bx_ (N := 1) (cs := #[.int .i64 22, .int .i64 a, .int .i64 c, .slice A v.length cc, .int .i64 t, .int .i64 n, .int .i64 o]) (t := 24) ?_; intro g hg w1 hb HB; have XB := Aside0.mk HB; have BK := Aside0.mk hb; obtain ⟨k0, k1, k2, k3, k4, k5, k6⟩ := cells7 hb; clear hg hb HB) | (go_at_call 45; refine (is_c _ _).mono ?_; rintro e w' ⟨rfl, rfl⟩) | (go_at_call 43; refine (refspan_c _ _ _ (by omega) (by omega)).mono ?_; rintro e w' ⟨rfl, rfl⟩))
         go_ret
         exact ⟨rfl, XB.out⟩
       ·have z6 : wB 0 65535 n = false := by simpa using hz6
        clear hz6
        have HR : Aside0 (chkB 22 a c v t n o = false) := ⟨by simp_all [chkB]⟩
        rw [HR.out]
        go_enter Try.func20, Try.ntmps20
        go_wp2_with (first | ((with_reducible refine gate_dst (N := 1) rfl ?_); refine bx_ (N := 1) (cs := #[.int .i64 22, .int .i64 a, .int .i64 c, .slice A v.length cc, .int .i64 t, .int .i64 n, .int .i64 o]) (t := 24) ?_; intro g hg w1 hb HB; have XB := Aside0.mk HB; have BK := Aside0.mk hb; obtain ⟨k0, k1, k2, k3, k4, k5, k6⟩ := cells7 hb; clear hg hb HB) | (go_at_call 45; refine (is_c _ _).mono ?_; rintro e w' ⟨rfl, rfl⟩) | (go_at_call 43; refine (refspan_c _ _ _ (by omega) (by omega)).mono ?_; rintro e w' ⟨rfl, rfl⟩))
        go_ret
        exact ⟨rfl, XB.out⟩
      ·have z5 : spB a 1 = false := by simpa using hz5
       clear hz5
       have HR : Aside0 (chkB 22 a c v t n o = false) := ⟨by simp_all [chkB]⟩
       rw [HR.out]
       go_enter Try.func20, Try.ntmps20
       go_wp2_with (first | ((with_reducible refine gate_dst (N := 1) rfl ?_); refine bx_ (N := 1) (cs := #[.int .i64 22, .int .i64 a, .int .i64 c, .slice A v.length cc, .int .i64 t, .int .i64 n, .int .i64 o]) (t := 24) ?_; intro g hg w1 hb HB; have XB := Aside0.mk HB; have BK := Aside0.mk hb; obtain ⟨k0, k1, k2, k3, k4, k5, k6⟩ := cells7 hb; clear hg hb HB) | (go_at_call 45; refine (is_c _ _).mono ?_; rintro e w' ⟨rfl, rfl⟩) | (go_at_call 43; refine (refspan_c _ _ _ (by omega) (by omega)).mono ?_; rintro e w' ⟨rfl, rfl⟩))
       go_ret
       exact ⟨rfl, XB.out⟩
     ·have z4 : (c == 0) = false := by simpa using hz4
      clear hz4
      have HR : Aside0 (chkB 22 a c v t n o = false) := ⟨by simp_all [chkB]⟩
      rw [HR.out]
      go_enter Try.func20, Try.ntmps20
      go_wp2_with (first | ((with_reducible refine gate_dst (N := 1) rfl ?_); refine bx_ (N := 1) (cs := #[.int .i64 22, .int .i64 a, .int .i64 c, .slice A v.length cc, .int .i64 t, .int .i64 n, .int .i64 o]) (t := 24) ?_; intro g hg w1 hb HB; have XB := Aside0.mk HB; have BK := Aside0.mk hb; obtain ⟨k0, k1, k2, k3, k4, k5, k6⟩ := cells7 hb; clear hg hb HB) | (go_at_call 45; refine (is_c _ _).mono ?_; rintro e w' ⟨rfl, rfl⟩) | (go_at_call 43; refine (refspan_c _ _ _ (by omega) (by omega)).mono ?_; rintro e w' ⟨rfl, rfl⟩))
      go_ret
      exact ⟨rfl, XB.out⟩
    ·have z3 : (t == 0) = false := by simpa using hz3
     clear hz3
     have HR : Aside0 (chkB 22 a c v t n o = false) := ⟨by simp_all [chkB]⟩
     rw [HR.out]
     go_enter Try.func20, Try.ntmps20
     go_wp2_with (first | ((with_reducible refine gate_dst (N := 1) rfl ?_); refine bx_ (N := 1) (cs := #[.int .i64 22, .int .i64 a, .int .i64 c, .slice A v.length cc, .int .i64 t, .int .i64 n, .int .i64 o]) (t := 24) ?_; intro g hg w1 hb HB; have XB := Aside0.mk HB; have BK := Aside0.mk hb; obtain ⟨k0, k1, k2, k3, k4, k5, k6⟩ := cells7 hb; clear hg hb HB) | (go_at_call 45; refine (is_c _ _).mono ?_; rintro e w' ⟨rfl, rfl⟩) | (go_at_call 43; refine (refspan_c _ _ _ (by omega) (by omega)).mono ?_; rintro e w' ⟨rfl, rfl⟩))
     go_ret
     exact ⟨rfl, XB.out⟩
   ·have z2 : ((v.length : Int) == 0) = false := by simpa using hz2
    clear hz2
    have HR : Aside0 (chkB 22 a c v t n o = false) := ⟨by simp_all [chkB]⟩
    rw [HR.out]
    go_enter Try.func20, Try.ntmps20
    go_wp2_with (first | ((with_reducible refine gate_dst (N := 1) rfl ?_); refine bx_ (N := 1) (cs := #[.int .i64 22, .int .i64 a, .int .i64 c, .slice A v.length cc, .int .i64 t, .int .i64 n, .int .i64 o]) (t := 24) ?_; intro g hg w1 hb HB; have XB := Aside0.mk HB; have BK := Aside0.mk hb; obtain ⟨k0, k1, k2, k3, k4, k5, k6⟩ := cells7 hb; clear hg hb HB) | (go_at_call 45; refine (is_c _ _).mono ?_; rintro e w' ⟨rfl, rfl⟩) | (go_at_call 43; refine (refspan_c _ _ _ (by omega) (by omega)).mono ?_; rintro e w' ⟨rfl, rfl⟩))
    go_ret
    exact ⟨rfl, XB.out⟩
 ·have z0 : (n == 0) = false := by simpa using hz0
  clear hz0
  by_cases hz1 : ((v.length : Int) == 0) = true
  ·have z1 : ((v.length : Int) == 0) = true := hz1; clear hz1
   by_cases hz2 : (t == 0) = true
   ·have z2 : (t == 0) = true := hz2; clear hz2
    by_cases hz3 : (c == 0) = true
    ·have z3 : (c == 0) = true := hz3; clear hz3
     by_cases hz4 : spB a 1 = true
     ·have z4 : spB a 1 = true := hz4; clear hz4
      by_cases hz5 : wB 0 65535 n = true
      ·have z5 : wB 0 65535 n = true := hz5; clear hz5
       by_cases hz6 : wB 0 65535 o = true
       ·have z6 : wB 0 65535 o = true := hz6; clear hz6
        have HR : Aside0 (chkB 22 a c v t n o = true) := ⟨by simp_all [chkB]⟩
        rw [HR.out]
        go_enter Try.func20, Try.ntmps20
        go_wp2_with (first | ((with_reducible refine gate_dst (N := 1) rfl ?_); refine bx_ (N := 1) (cs := #[.int .i64 22, .int .i64 a, .int .i64 c, .slice A v.length cc, .int .i64 t, .int .i64 n, .int .i64 o]) (t := 24) ?_; intro g hg w1 hb HB; have XB := Aside0.mk HB; have BK := Aside0.mk hb; obtain ⟨k0, k1, k2, k3, k4, k5, k6⟩ := cells7 hb; clear hg hb HB) | (go_at_call 45; refine (is_c _ _).mono ?_; rintro e w' ⟨rfl, rfl⟩) | (go_at_call 43; refine (refspan_c _ _ _ (by omega) (by omega)).mono ?_; rintro e w' ⟨rfl, rfl⟩))
        go_ret
        exact ⟨rfl, XB.out⟩
       ·have z6 : wB 0 65535 o = false := by simpa using hz6
        clear hz6
        have HR : Aside0 (chkB 22 a c v t n o = false) := ⟨by simp_all [chkB]⟩
        rw [HR.out]
        go_enter Try.func20, Try.ntmps20
        go_wp2_with (first | ((with_reducible refine gate_dst (N := 1) rfl ?_); refine bx_ (N := 1) (cs := #[.int .i64 22, .int .i64 a, .int .i64 c, .slice A v.length cc, .int .i64 t, .int .i64 n, .int .i64 o]) (t := 24) ?_; intro g hg w1 hb HB; have XB := Aside0.mk HB; have BK := Aside0.mk hb; obtain ⟨k0, k1, k2, k3, k4, k5, k6⟩ := cells7 hb; clear hg hb HB) | (go_at_call 45; refine (is_c _ _).mono ?_; rintro e w' ⟨rfl, rfl⟩) | (go_at_call 43; refine (refspan_c _ _ _ (by omega) (by omega)).mono ?_; rintro e w' ⟨rfl, rfl⟩))
        go_ret
        exact ⟨rfl, XB.out⟩
      ·have z5 : wB 0 65535 n = false := by simpa using hz5
       clear hz5
       have HR : Aside0 (chkB 22 a c v t n o = false) := ⟨by simp_all [chkB]⟩
       rw [HR.out]
       go_enter Try.func20, Try.ntmps20
       go_wp2_with (first | ((with_reducible refine gate_dst (N := 1) rfl ?_); refine bx_ (N := 1) (cs := #[.int .i64 22, .int .i64 a, .int .i64 c, .slice A v.length cc, .int .i64 t, .int .i64 n, .int .i64 o]) (t := 24) ?_; intro g hg w1 hb HB; have XB := Aside0.mk HB; have BK := Aside0.mk hb; obtain ⟨k0, k1, k2, k3, k4, k5, k6⟩ := cells7 hb; clear hg hb HB) | (go_at_call 45; refine (is_c _ _).mono ?_; rintro e w' ⟨rfl, rfl⟩) | (go_at_call 43; refine (refspan_c _ _ _ (by omega) (by omega)).mono ?_; rintro e w' ⟨rfl, rfl⟩))
       go_ret
       exact ⟨rfl, XB.out⟩
     ·have z4 : spB a 1 = false := by simpa using hz4
      clear hz4
      have HR : Aside0 (chkB 22 a c v t n o = false) := ⟨by simp_all [chkB]⟩
      rw [HR.out]
      go_enter Try.func20, Try.ntmps20
      go_wp2_with (first | ((with_reducible refine gate_dst (N := 1) rfl ?_); refine bx_ (N := 1) (cs := #[.int .i64 22, .int .i64 a, .int .i64 c, .slice A v.length cc, .int .i64 t, .int .i64 n, .int .i64 o]) (t := 24) ?_; intro g hg w1 hb HB; have XB := Aside0.mk HB; have BK := Aside0.mk hb; obtain ⟨k0, k1, k2, k3, k4, k5, k6⟩ := cells7 hb; clear hg hb HB) | (go_at_call 45; refine (is_c _ _).mono ?_; rintro e w' ⟨rfl, rfl⟩) | (go_at_call 43; refine (refspan_c _ _ _ (by omega) (by omega)).mono ?_; rintro e w' ⟨rfl, rfl⟩))
      go_ret
      exact ⟨rfl, XB.out⟩
    ·have z3 : (c == 0) = false := by simpa using hz3
     clear hz3
     have HR : Aside0 (chkB 22 a c v t n o = false) := ⟨by simp_all [chkB]⟩
     rw [HR.out]
     go_enter Try.func20, Try.ntmps20
     go_wp2_with (first | ((with_reducible refine gate_dst (N := 1) rfl ?_); refine bx_ (N := 1) (cs := #[.int .i64 22, .int .i64 a, .int .i64 c, .slice A v.length cc, .int .i64 t, .int .i64 n, .int .i64 o]) (t := 24) ?_; intro g hg w1 hb HB; have XB := Aside0.mk HB; have BK := Aside0.mk hb; obtain ⟨k0, k1, k2, k3, k4, k5, k6⟩ := cells7 hb; clear hg hb HB) | (go_at_call 45; refine (is_c _ _).mono ?_; rintro e w' ⟨rfl, rfl⟩) | (go_at_call 43; refine (refspan_c _ _ _ (by omega) (by omega)).mono ?_; rintro e w' ⟨rfl, rfl⟩))
     go_ret
     exact ⟨rfl, XB.out⟩
   ·have z2 : (t == 0) = false := by simpa using hz2
    clear hz2
    have HR : Aside0 (chkB 22 a c v t n o = false) := ⟨by simp_all [chkB]⟩
    rw [HR.out]
    go_enter Try.func20, Try.ntmps20
    go_wp2_with (first | ((with_reducible refine gate_dst (N := 1) rfl ?_); refine bx_ (N := 1) (cs := #[.int .i64 22, .int .i64 a, .int .i64 c, .slice A v.length cc, .int .i64 t, .int .i64 n, .int .i64 o]) (t := 24) ?_; intro g hg w1 hb HB; have XB := Aside0.mk HB; have BK := Aside0.mk hb; obtain ⟨k0, k1, k2, k3, k4, k5, k6⟩ := cells7 hb; clear hg hb HB) | (go_at_call 45; refine (is_c _ _).mono ?_; rintro e w' ⟨rfl, rfl⟩) | (go_at_call 43; refine (refspan_c _ _ _ (by omega) (by omega)).mono ?_; rintro e w' ⟨rfl, rfl⟩))
    go_ret
    exact ⟨rfl, XB.out⟩
  ·have z1 : ((v.length : Int) == 0) = false := by simpa using hz1
   clear hz1
   have HR : Aside0 (chkB 22 a c v t n o = false) := ⟨by simp_all [chkB]⟩
   rw [HR.out]
   go_enter Try.func20, Try.ntmps20
   go_wp2_with (first | ((with_reducible refine gate_dst (N := 1) rfl ?_); refine bx_ (N := 1) (cs := #[.int .i64 22, .int .i64 a, .int .i64 c, .slice A v.length cc, .int .i64 t, .int .i64 n, .int .i64 o]) (t := 24) ?_; intro g hg w1 hb HB; have XB := Aside0.mk HB; have BK := Aside0.mk hb; obtain ⟨k0, k1, k2, k3, k4, k5, k6⟩ := cells7 hb; clear hg hb HB) | (go_at_call 45; refine (is_c _ _).mono ?_; rintro e w' ⟨rfl, rfl⟩) | (go_at_call 43; refine (refspan_c _ _ _ (by omega) (by omega)).mono ?_; rintro e w' ⟨rfl, rfl⟩))
   go_ret
   exact ⟨rfl, XB.out⟩
set_option maxHeartbeats 4000000 in
set_option maxRecDepth 100000 in
theorem may_f (f a c : Int) (A : Option Addr) (cc : Nat) (v : List Int) (t n o : Int) (w : World) (hV : Kd.C (Kd.int .i64) w A v.length v) (hf : f ≠ 1 ∧ f ≠ 2 ∧ f ≠ 3 ∧ f ≠ 4 ∧ f ≠ 5 ∧ f ≠ 6 ∧ f ≠ 15 ∧ f ≠ 16 ∧ f ≠ 22 ∧ f ≠ 23) : Calls Try.prog 20 #[.agg #[.int .i64 f, .int .i64 a, .int .i64 c, .slice A v.length cc, .int .i64 t, .int .i64 n, .int .i64 o]] w fun e w' => e = .returned (.bool (chkB f a c v t n o)) ∧ Below w.heap.size w w' := by
 have HV := Aside0.mk hV; clear hV
 obtain ⟨g1, g2, g3, g4, g5, g6, g7, g8, g9, g10⟩ := hf
 have HR : Aside0 (chkB f a c v t n o = false) := ⟨by unfold chkB; rw [if_neg (by omega), if_neg (by omega), if_neg g5, if_neg g6, if_neg g7, if_neg g8, if_neg g9, if_neg g10]⟩
 have y0 : (f == 1) = false := beq_eq_false_iff_ne.2 g1
 have y1 : (f == 2) = false := beq_eq_false_iff_ne.2 g2
 have y2 : (f == 3) = false := beq_eq_false_iff_ne.2 g3
 have y3 : (f == 4) = false := beq_eq_false_iff_ne.2 g4
 have y4 : (f == 5) = false := beq_eq_false_iff_ne.2 g5
 have y5 : (f == 6) = false := beq_eq_false_iff_ne.2 g6
 have y6 : (f == 15) = false := beq_eq_false_iff_ne.2 g7
 have y7 : (f == 16) = false := beq_eq_false_iff_ne.2 g8
 have y8 : (f == 22) = false := beq_eq_false_iff_ne.2 g9
 have y9 : (f == 23) = false := beq_eq_false_iff_ne.2 g10
 clear g1 g2 g3 g4 g5 g6 g7 g8 g9 g10
 rw [HR.out]
 by_cases hz0 : (n == 0) = true
 ·have z0 : (n == 0) = true := hz0; clear hz0
  by_cases hz1 : (o == 0) = true
  ·have z1 : (o == 0) = true := hz1; clear hz1
   go_enter Try.func20, Try.ntmps20
   go_wp2_with (first | ((with_reducible refine gate_dst (N := 1) rfl ?_); refine bx_ (N := 1) (cs := #[.int .i64 f, .int .i64 a, .int .i64 c, .slice A v.length cc, .int .i64 t, .int .i64 n, .int .i64 o]) (t := 24) ?_; intro g hg w1 hb HB; have XB := Aside0.mk HB; have BK := Aside0.mk hb; obtain ⟨k0, k1, k2, k3, k4, k5, k6⟩ := cells7 hb; clear hg hb HB) | (go_at_call 45; refine (is_c _ _).mono ?_; rintro e w' ⟨rfl, rfl⟩) | (go_at_call 43; refine (refspan_c _ _ _ (by omega) (by omega)).mono ?_; rintro e w' ⟨rfl, rfl⟩))
   go_ret
   exact ⟨rfl, XB.out⟩
  ·have z1 : (o == 0) = false := by simpa using hz1
   clear hz1
   go_enter Try.func20, Try.ntmps20
   go_wp2_with (first | ((with_reducible refine gate_dst (N := 1) rfl ?_); refine bx_ (N := 1) (cs := #[.int .i64 f, .int .i64 a, .int .i64 c, .slice A v.length cc, .int .i64 t, .int .i64 n, .int .i64 o]) (t := 24) ?_; intro g hg w1 hb HB; have XB := Aside0.mk HB; have BK := Aside0.mk hb; obtain ⟨k0, k1, k2, k3, k4, k5, k6⟩ := cells7 hb; clear hg hb HB) | (go_at_call 45; refine (is_c _ _).mono ?_; rintro e w' ⟨rfl, rfl⟩) | (go_at_call 43; refine (refspan_c _ _ _ (by omega) (by omega)).mono ?_; rintro e w' ⟨rfl, rfl⟩))
   go_ret
   exact ⟨rfl, XB.out⟩
 ·have z0 : (n == 0) = false := by simpa using hz0
  clear hz0
  go_enter Try.func20, Try.ntmps20
  go_wp2_with (first | ((with_reducible refine gate_dst (N := 1) rfl ?_); refine bx_ (N := 1) (cs := #[.int .i64 f, .int .i64 a, .int .i64 c, .slice A v.length cc, .int .i64 t, .int .i64 n, .int .i64 o]) (t := 24) ?_; intro g hg w1 hb HB; have XB := Aside0.mk HB; have BK := Aside0.mk hb; obtain ⟨k0, k1, k2, k3, k4, k5, k6⟩ := cells7 hb; clear hg hb HB) | (go_at_call 45; refine (is_c _ _).mono ?_; rintro e w' ⟨rfl, rfl⟩) | (go_at_call 43; refine (refspan_c _ _ _ (by omega) (by omega)).mono ?_; rintro e w' ⟨rfl, rfl⟩))
  go_ret
  exact ⟨rfl, XB.out⟩
end Go.Proofs.Ytocicifgglkaeaa.Chk
end

section
namespace Go.Proofs.Ytocicifgglkaeaa.Chk
open Go.RowKit Go.Proofs.YtocicifgglkaeaaW.PrintWords Go.Proofs.YtocicifgglkaeaaW.PrintLast Go.Proofs.YtocicifgglkaeaaW.PrintMore Go.Proofs.Ytocicifgglkaeaa.Core Go.Proofs.Ytocicifgglkaeaa.Wk
set_option linter.unusedVariables false
set_option linter.unusedSimpArgs false
set_option maxHeartbeats 4000000 in
set_option maxRecDepth 100000 in
theorem may_23 (a c : Int) (A : Option Addr) (cc : Nat) (v : List Int) (t n o : Int) (w : World) (hV : Kd.C (Kd.int .i64) w A v.length v) : Calls Try.prog 20 #[.agg #[.int .i64 23, .int .i64 a, .int .i64 c, .slice A v.length cc, .int .i64 t, .int .i64 n, .int .i64 o]] w fun e w' => e = .returned (.bool (chkB 23 a c v t n o)) ∧ Below w.heap.size w w' := by
 have HV := Aside0.mk hV; clear hV
 by_cases hz0 : (n == 0) = true
 ·have z0 : (n == 0) = true := hz0; clear hz0
  by_cases hz1 : (o == 0) = true
  ·have z1 : (o == 0) = true := hz1; clear hz1
   by_cases hz2 : decide (1 ≤ c) = true
   ·have z2 : decide (1 ≤ c) = true := hz2; clear hz2; have pz2 := of_decide_eq_true z2
    by_cases hz3 : decide (c ≤ 125) = true
    ·have z3 : decide (c ≤ 125) = true := hz3; clear hz3; have pz3 := of_decide_eq_true z3
     by_cases hz4 : spB a c = true
     ·have z4 : spB a c = true := hz4; clear hz4
      by_cases hz5 : smB 1 121 65535 v = true
      ·have z5 : smB 1 121 65535 v = true := hz5; clear hz5; have pz5 := smB_len z5
       by_cases hz6 : spB t v.length = true
       ·have z6 : spB t v.length = true := hz6; clear hz6
        have HR : Aside0 (chkB 23 a c v t n o = true) := ⟨by simp_all [chkB, wB] <;> (intros; omega)⟩
        rw [HR.out]
        go_enter Try.func20, Try.ntmps20
        go_wp2_with (first | ((with_reducible refine gate_dst (N := 1) rfl ?_); refine bx_ (N := 1) (cs := #[.int .i64 23, .int .i64 a, .int .i64 c, .slice A v.length cc, .int .i64 t, .int .i64 n, .int .i64 o]) (t := 24) ?_; intro g hg w1 hb HB; have XB := Aside0.mk HB; have BK := Aside0.mk hb; obtain ⟨k0, k1, k2, k3, k4, k5, k6⟩ := cells7 hb; clear hg hb HB) | (go_at_call 45; refine (is_c _ _).mono ?_; rintro e w' ⟨rfl, rfl⟩) | (go_at_call 43; refine (refspan_c _ _ _ (by omega) (by omega)).mono ?_; rintro e w' ⟨rfl, rfl⟩) | (go_at_call 44; refine (vals_c 23 a c A cc v t n o _ _ _ (Kd.C_below HV.out XB.out) (m := 65535) (by decide)).mono ?_; rintro e w2 ⟨rfl, HB⟩; have XBn := Aside0.mk (below_step XB.out HB); have BKn := Aside0.mk (blk_below BK.out HB); obtain ⟨k0, k1, k2, k3, k4, k5, k6⟩ := cells7 BKn.out; clear HB XB BK; have XB := XBn; have BK := BKn))
        go_ret
        exact ⟨rfl, XB.out⟩
       ·have z6 : spB t v.length = false := by simpa using hz6
        clear hz6
        have HR : Aside0 (chkB 23 a c v t n o = false) := ⟨by simp_all [chkB, wB] <;> (intros; omega)⟩
        rw [HR.out]
        go_enter Try.func20, Try.ntmps20
        go_wp2_with (first | ((with_reducible refine gate_dst (N := 1) rfl ?_); refine bx_ (N := 1) (cs := #[.int .i64 23, .int .i64 a, .int .i64 c, .slice A v.length cc, .int .i64 t, .int .i64 n, .int .i64 o]) (t := 24) ?_; intro g hg w1 hb HB; have XB := Aside0.mk HB; have BK := Aside0.mk hb; obtain ⟨k0, k1, k2, k3, k4, k5, k6⟩ := cells7 hb; clear hg hb HB) | (go_at_call 45; refine (is_c _ _).mono ?_; rintro e w' ⟨rfl, rfl⟩) | (go_at_call 43; refine (refspan_c _ _ _ (by omega) (by omega)).mono ?_; rintro e w' ⟨rfl, rfl⟩) | (go_at_call 44; refine (vals_c 23 a c A cc v t n o _ _ _ (Kd.C_below HV.out XB.out) (m := 65535) (by decide)).mono ?_; rintro e w2 ⟨rfl, HB⟩; have XBn := Aside0.mk (below_step XB.out HB); have BKn := Aside0.mk (blk_below BK.out HB); obtain ⟨k0, k1, k2, k3, k4, k5, k6⟩ := cells7 BKn.out; clear HB XB BK; have XB := XBn; have BK := BKn))
        go_ret
        exact ⟨rfl, XB.out⟩
      ·have z5 : smB 1 121 65535 v = false := by simpa using hz5
       clear hz5
       have HR : Aside0 (chkB 23 a c v t n o = false) := ⟨by simp_all [chkB, wB] <;> (intros; omega)⟩
       rw [HR.out]
       go_enter Try.func20, Try.ntmps20
       go_wp2_with (first | ((with_reducible refine gate_dst (N := 1) rfl ?_); refine bx_ (N := 1) (cs := #[.int .i64 23, .int .i64 a, .int .i64 c, .slice A v.length cc, .int .i64 t, .int .i64 n, .int .i64 o]) (t := 24) ?_; intro g hg w1 hb HB; have XB := Aside0.mk HB; have BK := Aside0.mk hb; obtain ⟨k0, k1, k2, k3, k4, k5, k6⟩ := cells7 hb; clear hg hb HB) | (go_at_call 45; refine (is_c _ _).mono ?_; rintro e w' ⟨rfl, rfl⟩) | (go_at_call 43; refine (refspan_c _ _ _ (by omega) (by omega)).mono ?_; rintro e w' ⟨rfl, rfl⟩) | (go_at_call 44; refine (vals_c 23 a c A cc v t n o _ _ _ (Kd.C_below HV.out XB.out) (m := 65535) (by decide)).mono ?_; rintro e w2 ⟨rfl, HB⟩; have XBn := Aside0.mk (below_step XB.out HB); have BKn := Aside0.mk (blk_below BK.out HB); obtain ⟨k0, k1, k2, k3, k4, k5, k6⟩ := cells7 BKn.out; clear HB XB BK; have XB := XBn; have BK := BKn))
       go_ret
       exact ⟨rfl, XB.out⟩
     ·have z4 : spB a c = false := by simpa using hz4
      clear hz4
      have HR : Aside0 (chkB 23 a c v t n o = false) := ⟨by simp_all [chkB, wB] <;> (intros; omega)⟩
      rw [HR.out]
      go_enter Try.func20, Try.ntmps20
      go_wp2_with (first | ((with_reducible refine gate_dst (N := 1) rfl ?_); refine bx_ (N := 1) (cs := #[.int .i64 23, .int .i64 a, .int .i64 c, .slice A v.length cc, .int .i64 t, .int .i64 n, .int .i64 o]) (t := 24) ?_; intro g hg w1 hb HB; have XB := Aside0.mk HB; have BK := Aside0.mk hb; obtain ⟨k0, k1, k2, k3, k4, k5, k6⟩ := cells7 hb; clear hg hb HB) | (go_at_call 45; refine (is_c _ _).mono ?_; rintro e w' ⟨rfl, rfl⟩) | (go_at_call 43; refine (refspan_c _ _ _ (by omega) (by omega)).mono ?_; rintro e w' ⟨rfl, rfl⟩) | (go_at_call 44; refine (vals_c 23 a c A cc v t n o _ _ _ (Kd.C_below HV.out XB.out) (m := 65535) (by decide)).mono ?_; rintro e w2 ⟨rfl, HB⟩; have XBn := Aside0.mk (below_step XB.out HB); have BKn := Aside0.mk (blk_below BK.out HB); obtain ⟨k0, k1, k2, k3, k4, k5, k6⟩ := cells7 BKn.out; clear HB XB BK; have XB := XBn; have BK := BKn))
      go_ret
      exact ⟨rfl, XB.out⟩
    ·have z3 : decide (c ≤ 125) = false := by simpa using hz3
     clear hz3
     have HR : Aside0 (chkB 23 a c v t n o = false) := ⟨by simp_all [chkB, wB] <;> (intros; omega)⟩
     rw [HR.out]
     go_enter Try.func20, Try.ntmps20
     go_wp2_with (first | ((with_reducible refine gate_dst (N := 1) rfl ?_); refine bx_ (N := 1) (cs := #[.int .i64 23, .int .i64 a, .int .i64 c, .slice A v.length cc, .int .i64 t, .int .i64 n, .int .i64 o]) (t := 24) ?_; intro g hg w1 hb HB; have XB := Aside0.mk HB; have BK := Aside0.mk hb; obtain ⟨k0, k1, k2, k3, k4, k5, k6⟩ := cells7 hb; clear hg hb HB) | (go_at_call 45; refine (is_c _ _).mono ?_; rintro e w' ⟨rfl, rfl⟩) | (go_at_call 43; refine (refspan_c _ _ _ (by omega) (by omega)).mono ?_; rintro e w' ⟨rfl, rfl⟩) | (go_at_call 44; refine (vals_c 23 a c A cc v t n o _ _ _ (Kd.C_below HV.out XB.out) (m := 65535) (by decide)).mono ?_; rintro e w2 ⟨rfl, HB⟩; have XBn := Aside0.mk (below_step XB.out HB); have BKn := Aside0.mk (blk_below BK.out HB); obtain ⟨k0, k1, k2, k3, k4, k5, k6⟩ := cells7 BKn.out; clear HB XB BK; have XB := XBn; have BK := BKn))
     go_ret
     exact ⟨rfl, XB.out⟩
   ·have z2 : decide (1 ≤ c) = false := by simpa using hz2
    clear hz2
    have HR : Aside0 (chkB 23 a c v t n o = false) := ⟨by simp_all [chkB, wB] <;> (intros; omega)⟩
    rw [HR.out]
    go_enter Try.func20, Try.ntmps20
    go_wp2_with (first | ((with_reducible refine gate_dst (N := 1) rfl ?_); refine bx_ (N := 1) (cs := #[.int .i64 23, .int .i64 a, .int .i64 c, .slice A v.length cc, .int .i64 t, .int .i64 n, .int .i64 o]) (t := 24) ?_; intro g hg w1 hb HB; have XB := Aside0.mk HB; have BK := Aside0.mk hb; obtain ⟨k0, k1, k2, k3, k4, k5, k6⟩ := cells7 hb; clear hg hb HB) | (go_at_call 45; refine (is_c _ _).mono ?_; rintro e w' ⟨rfl, rfl⟩) | (go_at_call 43; refine (refspan_c _ _ _ (by omega) (by omega)).mono ?_; rintro e w' ⟨rfl, rfl⟩) | (go_at_call 44; refine (vals_c 23 a c A cc v t n o _ _ _ (Kd.C_below HV.out XB.out) (m := 65535) (by decide)).mono ?_; rintro e w2 ⟨rfl, HB⟩; have XBn := Aside0.mk (below_step XB.out HB); have BKn := Aside0.mk (blk_below BK.out HB); obtain ⟨k0, k1, k2, k3, k4, k5, k6⟩ := cells7 BKn.out; clear HB XB BK; have XB := XBn; have BK := BKn))
    go_ret
    exact ⟨rfl, XB.out⟩
  ·have z1 : (o == 0) = false := by simpa using hz1
   clear hz1
   have HR : Aside0 (chkB 23 a c v t n o = false) := ⟨by simp_all [chkB, wB] <;> (intros; omega)⟩
   rw [HR.out]
   go_enter Try.func20, Try.ntmps20
   go_wp2_with (first | ((with_reducible refine gate_dst (N := 1) rfl ?_); refine bx_ (N := 1) (cs := #[.int .i64 23, .int .i64 a, .int .i64 c, .slice A v.length cc, .int .i64 t, .int .i64 n, .int .i64 o]) (t := 24) ?_; intro g hg w1 hb HB; have XB := Aside0.mk HB; have BK := Aside0.mk hb; obtain ⟨k0, k1, k2, k3, k4, k5, k6⟩ := cells7 hb; clear hg hb HB) | (go_at_call 45; refine (is_c _ _).mono ?_; rintro e w' ⟨rfl, rfl⟩) | (go_at_call 43; refine (refspan_c _ _ _ (by omega) (by omega)).mono ?_; rintro e w' ⟨rfl, rfl⟩) | (go_at_call 44; refine (vals_c 23 a c A cc v t n o _ _ _ (Kd.C_below HV.out XB.out) (m := 65535) (by decide)).mono ?_; rintro e w2 ⟨rfl, HB⟩; have XBn := Aside0.mk (below_step XB.out HB); have BKn := Aside0.mk (blk_below BK.out HB); obtain ⟨k0, k1, k2, k3, k4, k5, k6⟩ := cells7 BKn.out; clear HB XB BK; have XB := XBn; have BK := BKn))
   go_ret
   exact ⟨rfl, XB.out⟩
 ·have z0 : (n == 0) = false := by simpa using hz0
  clear hz0
  have HR : Aside0 (chkB 23 a c v t n o = false) := ⟨by simp_all [chkB, wB] <;> (intros; omega)⟩
  rw [HR.out]
  go_enter Try.func20, Try.ntmps20
  go_wp2_with (first | ((with_reducible refine gate_dst (N := 1) rfl ?_); refine bx_ (N := 1) (cs := #[.int .i64 23, .int .i64 a, .int .i64 c, .slice A v.length cc, .int .i64 t, .int .i64 n, .int .i64 o]) (t := 24) ?_; intro g hg w1 hb HB; have XB := Aside0.mk HB; have BK := Aside0.mk hb; obtain ⟨k0, k1, k2, k3, k4, k5, k6⟩ := cells7 hb; clear hg hb HB) | (go_at_call 45; refine (is_c _ _).mono ?_; rintro e w' ⟨rfl, rfl⟩) | (go_at_call 43; refine (refspan_c _ _ _ (by omega) (by omega)).mono ?_; rintro e w' ⟨rfl, rfl⟩) | (go_at_call 44; refine (vals_c 23 a c A cc v t n o _ _ _ (Kd.C_below HV.out XB.out) (m := 65535) (by decide)).mono ?_; rintro e w2 ⟨rfl, HB⟩; have XBn := Aside0.mk (below_step XB.out HB); have BKn := Aside0.mk (blk_below BK.out HB); obtain ⟨k0, k1, k2, k3, k4, k5, k6⟩ := cells7 BKn.out; clear HB XB BK; have XB := XBn; have BK := BKn))
  go_ret
  exact ⟨rfl, XB.out⟩
end Go.Proofs.Ytocicifgglkaeaa.Chk
end

section
namespace Go.Proofs.Ytocicifgglkaeaa.Chk
open Go.RowKit Go.Proofs.YtocicifgglkaeaaW.PrintWords Go.Proofs.YtocicifgglkaeaaW.PrintLast Go.Proofs.YtocicifgglkaeaaW.PrintMore Go.Proofs.Ytocicifgglkaeaa.Core Go.Proofs.Ytocicifgglkaeaa.Wk
set_option linter.unusedVariables false
set_option linter.unusedSimpArgs false
theorem may_c (f a c : Int) (A : Option Addr) (cc : Nat) (v : List Int) (t n o : Int) (w : World) (hV : Kd.C (Kd.int .i64) w A v.length v) : Calls Try.prog 20 #[.agg #[.int .i64 f, .int .i64 a, .int .i64 c, .slice A v.length cc, .int .i64 t, .int .i64 n, .int .i64 o]] w fun e w' => e = .returned (.bool (chkB f a c v t n o)) ∧ Below w.heap.size w w' := by
 by_cases h0 : f = 1
 ·subst h0; exact may_1 a c A cc v t n o w hV
 by_cases h1 : f = 2
 ·subst h1; exact may_2 a c A cc v t n o w hV
 by_cases h2 : f = 3
 ·subst h2; exact may_3 a c A cc v t n o w hV
 by_cases h3 : f = 4
 ·subst h3; exact may_4 a c A cc v t n o w hV
 by_cases h4 : f = 5
 ·subst h4; exact may_5 a c A cc v t n o w hV
 by_cases h5 : f = 6
 ·subst h5; exact may_6 a c A cc v t n o w hV
 by_cases h6 : f = 15
 ·subst h6; exact may_15 a c A cc v t n o w hV
 by_cases h7 : f = 16
 ·subst h7; exact may_16 a c A cc v t n o w hV
 by_cases h8 : f = 22
 ·subst h8; exact may_22 a c A cc v t n o w hV
 by_cases h9 : f = 23
 ·subst h9; exact may_23 a c A cc v t n o w hV
 exact may_f f a c A cc v t n o w hV ⟨h0, h1, h2, h3, h4, h5, h6, h7, h8, h9⟩
end Go.Proofs.Ytocicifgglkaeaa.Chk
end

section
namespace Go.Proofs.Ytocicifgglkaeaa.ExtV
open Go.RowKit Go.Proofs.Ytocicifgglkaeaa.Chk Go.Proofs.Ytocicifgglkaeaa.ExtF Go.Proofs.Ytocicifgglkaeaa.ExtM Go.Proofs.YtocicifgglkaeaaW.PrintWords Go.Proofs.YtocicifgglkaeaaW.PrintLast Go.Proofs.YtocicifgglkaeaaW.PrintMore
set_option linter.unusedVariables false
set_option linter.unusedSimpArgs false
theorem and_eq {a b c d : Bool} (h : a = c) (k : b = d) : (a && b) = (c && d) := by rw [h, k]
theorem sm_bit (l : List Int) (lo hi : Nat) : smB lo hi 1 l = valB true l lo hi :=
 and_eq (decide_eq_decide.2 (by omega)) (by
  rw [if_pos rfl]
  exact decide_eq_decide.2 ⟨fun k x hx => by have := k x hx; omega, fun k x hx => by have := k x hx; omega⟩)
theorem sm_word (l : List Int) (lo hi : Nat) : smB lo hi 65535 l = valB false l lo hi :=
 and_eq (decide_eq_decide.2 (by omega)) (by
  rw [if_neg (by decide)]
  exact decide_eq_decide.2 ⟨fun k x hx => by have := k x hx; omega, fun k x hx => by have := k x hx; omega⟩)
theorem sp_eq (a n : Int) : spB a n = spanB a n := rfl
theorem w_eq (lo hi n : Int) : wB lo hi n = (decide (lo ≤ n) && decide (n ≤ hi)) := by
 unfold wB
 rw [Bool.eq_iff_iff, Bool.and_eq_true, decide_eq_true_eq, decide_eq_true_eq, decide_eq_true_eq]
theorem w_is (n : Int) : wB 0 65535 n = isB n := rfl
theorem chk_may (f a c : Int) (v : List Int) (t n o : Int) : chkB f a c v t n o = mayB f a c v t n o := by
 unfold chkB mayB
 have b1 := sm_bit v 1 1; have b2 := sm_word v 1 1; have b3 := sm_bit v 1 1968; have b4 := sm_word v 1 123; have b5 := sm_word v 1 121
 have c1 : smB 1 1 1 v = valB true v 1 1 := b1
 have c2 : smB 1 1 65535 v = valB false v 1 1 := b2
 have c3 : smB 1 1968 1 v = valB true v 1 1968 := b3
 have c4 : smB 1 123 65535 v = valB false v 1 123 := b4
 have c5 : smB 1 121 65535 v = valB false v 1 121 := b5
 rw [c1, c2, c3, c4, c5, w_is n, w_is o, w_eq 1 2000 c, w_eq 1 125 c]
 simp only [sp_eq, Bool.and_assoc, Bool.and_comm, Bool.and_left_comm]
theorem may_v (f a c : Int) (A : Option Addr) (cc : Nat) (v : List Int) (t n o : Int) (r : Bool) (w : World) (hV : Kd.C (Kd.int .i64) w A v.length v) (h : mayB f a c v t n o = r) : Calls Try.prog 20 #[.agg #[.int .i64 f, .int .i64 a, .int .i64 c, .slice A v.length cc, .int .i64 t, .int .i64 n, .int .i64 o]] w fun e w' => e = .returned (.bool r) ∧ Below w.heap.size w w' := by
 rw [← h, ← chk_may]
 exact Go.Proofs.Ytocicifgglkaeaa.Chk.may_c f a c A cc v t n o w hV
end Go.Proofs.Ytocicifgglkaeaa.ExtV
end

section
namespace Go.Proofs.Ytocicifgglkaeaa.ExtU
open Go.RowKit Go.Proofs.YtocicifgglkaeaaW.PrintWords Go.Proofs.YtocicifgglkaeaaW.PrintLast Go.Proofs.YtocicifgglkaeaaW.PrintMore Go.Proofs.Ytocicifgglkaeaa.ExtF Go.Proofs.Ytocicifgglkaeaa.ExtM
set_option linter.unusedVariables false
theorem basculeref03_May.calls (a0_0 : Int) (a0_1 : Int) (a0_2 : Int) (A0_3 : Option Addr) (c0_3 : Nat) (l0_3 : List Int) (a0_4 : Int) (a0_5 : Int) (a0_6 : Int) (r : Bool) (w : World) (hr0_3 : Kd.C (Kd.int .i64) w A0_3 l0_3.length l0_3) (hc0_3 : l0_3.length ≤ c0_3) (h : basculeref03_May.f a0_0 a0_1 a0_2 l0_3 a0_4 a0_5 a0_6 = some r) :
 Calls Try.prog 20 #[.agg #[.int .i64 a0_0, .int .i64 a0_1, .int .i64 a0_2, .slice A0_3 l0_3.length c0_3, .int .i64 a0_4, .int .i64 a0_5, .int .i64 a0_6]] w fun e w' => e = .returned (.bool r) ∧ Below w.heap.size w w' :=
 ExtV.may_v a0_0 a0_1 a0_2 A0_3 c0_3 l0_3 a0_4 a0_5 a0_6 r w hr0_3 (Option.some.inj h)
end Go.Proofs.Ytocicifgglkaeaa.ExtU
end

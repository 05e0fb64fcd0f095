/- The walks of MasterOnce. (printed by gen_mst.py) -/
import Derived.Test.YtlalpooiegganaaZO5
import Derived.WalkMore
import Derived.Deep.LoopGhost
import Derived.Deep.CutBlock
import Derived.Deep.DeepCutAuto
namespace Go.Proofs.Ytlalpooiegganaa.HandOnce
open Go.RowKit Go.Proofs.YtlalpooiegganaaW.PrintWords Go.Proofs.YtlalpooiegganaaW.PrintLast Go.Proofs.YtlalpooiegganaaW.PrintMore Go.Proofs.Ytlalpooiegganaa.Core Go.Proofs.Ytlalpooiegganaa.Wk Go.Proofs.Ytlalpooiegganaa.PMasterWaits Go.Proofs.Ytlalpooiegganaa.Msg Go.Proofs.Ytlalpooiegganaa.MsgB Go.Proofs.Ytlalpooiegganaa.MsgC Go.Proofs.Ytlalpooiegganaa.MsgD Go.Proofs.Ytlalpooiegganaa.MsgG Go.Proofs.Ytlalpooiegganaa.MsgP Go.Proofs.Ytlalpooiegganaa.MsgS Go.Proofs.Ytlalpooiegganaa.MthN Go.Proofs.Ytlalpooiegganaa.MsgT
set_option linter.unusedVariables false
set_option linter.unusedSimpArgs false
theorem cl12_ {p : Prop} {w : World} {g : Nat} {t : TypeId} {v0 v1 v2 v3 v4 v5 v6 v7 v8 v9 v10 v11 : Value} (h : w.heap[g]? = some (.cells #[v0, v1, v2, v3, v4, v5, v6, v7, v8, v9, v10, v11] t (0, 0))) (k : w.cell? ⟨g, 0, none⟩ = some v0 → w.cell? ⟨g, 1, none⟩ = some v1 → w.cell? ⟨g, 2, none⟩ = some v2 → w.cell? ⟨g, 3, none⟩ = some v3 → w.cell? ⟨g, 4, none⟩ = some v4 → w.cell? ⟨g, 5, none⟩ = some v5 → w.cell? ⟨g, 6, none⟩ = some v6 → w.cell? ⟨g, 7, none⟩ = some v7 → w.cell? ⟨g, 8, none⟩ = some v8 → w.cell? ⟨g, 9, none⟩ = some v9 → w.cell? ⟨g, 10, none⟩ = some v10 → w.cell? ⟨g, 11, none⟩ = some v11 → w.frozen? ⟨g, 0, none⟩ = false → w.frozen? ⟨g, 1, none⟩ = false → w.frozen? ⟨g, 2, none⟩ = false → w.frozen? ⟨g, 3, none⟩ = false → w.frozen? ⟨g, 4, none⟩ = false → w.frozen? ⟨g, 5, none⟩ = false → w.frozen? ⟨g, 6, none⟩ = false → w.frozen? ⟨g, 7, none⟩ = false → w.frozen? ⟨g, 8, none⟩ = false → w.frozen? ⟨g, 9, none⟩ = false → w.frozen? ⟨g, 10, none⟩ = false → w.frozen? ⟨g, 11, none⟩ = false → p) : p := k ((blk_cell h 0).trans rfl) ((blk_cell h 1).trans rfl) ((blk_cell h 2).trans rfl) ((blk_cell h 3).trans rfl) ((blk_cell h 4).trans rfl) ((blk_cell h 5).trans rfl) ((blk_cell h 6).trans rfl) ((blk_cell h 7).trans rfl) ((blk_cell h 8).trans rfl) ((blk_cell h 9).trans rfl) ((blk_cell h 10).trans rfl) ((blk_cell h 11).trans rfl) (blk_frozen h 0) (blk_frozen h 1) (blk_frozen h 2) (blk_frozen h 3) (blk_frozen h 4) (blk_frozen h 5) (blk_frozen h 6) (blk_frozen h 7) (blk_frozen h 8) (blk_frozen h 9) (blk_frozen h 10) (blk_frozen h 11)
theorem wst {x : Int} (h : x ≤ 16) (h2 : 0 ≤ x) : wrap64 (x + 1) = x + 1 := by unfold wrap64; omega
set_option maxHeartbeats 4000000 in
set_option maxRecDepth 100000 in
theorem out0 (wt ag ps : Int) (A : Option Addr) (c : Nat) (os : List OP) (w : World) (hV : Kd.C PK.k61 w A os.length os) (hc : os.length ≤ c) (hf : PK.basculelaw07_few.f 200 os = some false) : Calls Try.prog 6 #[.int .i64 wt, .int .i64 ag, .int .i64 ps, .slice A os.length c] w fun e w' => e = .returned (.bool true) ∧ Below w.heap.size w w' := by
 have HV := Aside0.mk hV; have HC := Aside0.mk hc; have HF := Aside0.mk hf; clear hV hc hf
 go_enter Try.func6, Try.ntmps6
 go_wp2_with ((go_at_call 18; refine (few_q HV.out HC.out HF.out).mono ?_; rintro e w0 ⟨rfl, HBc⟩; have HB := Aside0.mk HBc; clear HBc))
 go_ret
 exact ⟨rfl, HB.out⟩
set_option maxHeartbeats 4000000 in
set_option maxRecDepth 100000 in
theorem out1 (wt ag ps : Int) (A : Option Addr) (c : Nat) (os : List OP) (w : World) (hV : Kd.C PK.k61 w A os.length os) (hc : os.length ≤ c) (hf : PK.basculelaw07_few.f 200 os = some true)  (h : 1000000000 < ps) : Calls Try.prog 6 #[.int .i64 wt, .int .i64 ag, .int .i64 ps, .slice A os.length c] w fun e w' => e = .returned (.bool true) ∧ Below w.heap.size w w' := by
 have c1 : decide (1000000000 < ps) = true := decide_eq_true (by omega)
 have HV := Aside0.mk hV; have HC := Aside0.mk hc; have HF := Aside0.mk hf; clear hV hc hf h
 go_enter Try.func6, Try.ntmps6
 go_wp2_with ((go_at_call 18; refine (few_q HV.out HC.out HF.out).mono ?_; rintro e w0 ⟨rfl, HBc⟩; have HB := Aside0.mk HBc; clear HBc))
 go_ret
 exact ⟨rfl, HB.out⟩
set_option maxHeartbeats 4000000 in
set_option maxRecDepth 100000 in
theorem out2 (wt ag ps : Int) (A : Option Addr) (c : Nat) (os : List OP) (w : World) (hV : Kd.C PK.k61 w A os.length os) (hc : os.length ≤ c) (hf : PK.basculelaw07_few.f 200 os = some true) (g1 : ¬ (1000000000 < ps)) (h : 1000000000 < wt) : Calls Try.prog 6 #[.int .i64 wt, .int .i64 ag, .int .i64 ps, .slice A os.length c] w fun e w' => e = .returned (.bool true) ∧ Below w.heap.size w w' := by
 have c1 : decide (1000000000 < ps) = false := decide_eq_false (by omega)
 have c2 : decide (1000000000 < wt) = true := decide_eq_true (by omega)
 have HV := Aside0.mk hV; have HC := Aside0.mk hc; have HF := Aside0.mk hf; clear hV hc hf h g1
 go_enter Try.func6, Try.ntmps6
 go_wp2_with ((go_at_call 18; refine (few_q HV.out HC.out HF.out).mono ?_; rintro e w0 ⟨rfl, HBc⟩; have HB := Aside0.mk HBc; clear HBc))
 go_ret
 exact ⟨rfl, HB.out⟩
set_option maxHeartbeats 4000000 in
set_option maxRecDepth 100000 in
theorem out3 (wt ag ps : Int) (A : Option Addr) (c : Nat) (os : List OP) (w : World) (hV : Kd.C PK.k61 w A os.length os) (hc : os.length ≤ c) (hf : PK.basculelaw07_few.f 200 os = some true) (g1 : ¬ (1000000000 < ps)) (g2 : ¬ (1000000000 < wt)) (hn : ¬ (1 ≤ wt ∧ 0 ≤ ag ∧ ag ≤ 16 ∧ 0 ≤ ps)) : Calls Try.prog 6 #[.int .i64 wt, .int .i64 ag, .int .i64 ps, .slice A os.length c] w fun e w' => e = .returned (.bool true) ∧ Below w.heap.size w w' := by
 have c1 : decide (1000000000 < ps) = false := decide_eq_false (by omega)
 have c2 : decide (1000000000 < wt) = false := decide_eq_false (by omega)
 have HV := Aside0.mk hV; have HC := Aside0.mk hc; have HF := Aside0.mk hf; have HN := Aside0.mk hn; clear hV hc hf hn g1 g2
 go_enter Try.func6, Try.ntmps6
 go_wp2_with (first | (go_at_call 18; refine (few_q HV.out HC.out HF.out).mono ?_; rintro e w0 ⟨rfl, HBc⟩; have HB := Aside0.mk HBc; clear HBc) | (go_at_call 8; refine (MsgH.new_bad _ wt ag ps HN.out).mono ?_; rintro e w1 ⟨rfl, rfl⟩) | (go_at_call 9; refine (MsgH.awake_c _).mono ?_; rintro e w9 ⟨rfl, HBc⟩; have HB9 : Aside0 (Below w.heap.size w w9) := ⟨below_step HB.out HBc⟩; clear HBc))
 go_ret
 exact ⟨rfl, HB9.out⟩
set_option maxHeartbeats 16000000 in
set_option maxRecDepth 100000 in
theorem once_c (wt ag ps : Int) (A : Option Addr) (c : Nat) (os : List OP) (w : World) (hV : Kd.C PK.k61 w A os.length os) (hc : os.length ≤ c) (hf : PK.basculelaw07_few.f 200 os = some true) (g1 : ¬ (1000000000 < ps)) (g2 : ¬ (1000000000 < wt)) (hfw : FewO os) (hby : ∀ x ∈ os, MathP.Bytes x.f4) (hN : 1 ≤ wt ∧ 0 ≤ ag ∧ ag ≤ 16 ∧ 0 ≤ ps) : Calls Try.prog 6 #[.int .i64 wt, .int .i64 ag, .int .i64 ps, .slice A os.length c] w fun e w' => e = .returned (.bool true) ∧ Below w.heap.size w w' := by
 have c1 : decide (1000000000 < ps) = false := decide_eq_false (by omega)
 have c2 : decide (1000000000 < wt) = false := decide_eq_false (by omega)
 have HV := Aside0.mk hV; have HC := Aside0.mk hc; have HF := Aside0.mk hf; have HN := Aside0.mk hN; have HFW := Aside0.mk hfw; have HBY := Aside0.mk hby; clear hV hc hf hN g1 g2 hfw hby
 have hu31 := Try.underlying31; have hu39 := Try.underlying39; have hu48 := Try.underlying48; have hu46 := Try.underlying46; have hu61 := Try.underlying61
 go_enter Try.func6, Try.ntmps6
 go_wp2_with (first | (go_at_call 18; refine (few_q HV.out HC.out HF.out).mono ?_; rintro e w0 ⟨rfl, HBc⟩; have HB := Aside0.mk HBc; clear HBc) | (go_at_call 8; refine (new_p _ wt ag ps HN.out.1 HN.out.2.1 HN.out.2.2.1 HN.out.2.2.2).mono ?_; rintro e w1 ⟨g, m, rfl, hg, hm, hm1, HI1, HB1⟩; have HI := Aside0.mk HI1; have HB2 : Aside0 (Below w.heap.size w w1) := ⟨below_step HB.out HB1⟩; have HG : Aside0 (w.heap.size ≤ g) := ⟨Nat.le_trans HB.out.size hg⟩; have HM : Aside0 (w.heap.size ≤ m) := ⟨Nat.le_trans HB.out.size hm⟩; clear HI1 HB1 hg hm hm1 HB) | ((with_reducible refine gate_dst (N := 12) rfl ?_); refine box_event ?hg (N := 12) ?hd (cs := ((List.replicate 200 (0 : Int)).map (Value.int .i64)).toArray) (t := 67) ?hr ?_; (case hd => rfl); (case hg => rfl); (case hr => first | (go_simp; done) | (go_simp; rfl) | (go_simp; kernel_rfl)); intro gs hgs w2 hbox HBc; have HS := Aside0.mk hbox; have HI2 : Aside0 (∀ B, IsP B w2 g m (init wt ag ps)) := ⟨fun B => (HI.out B).below HBc⟩; have HGS : Aside0 (w.heap.size ≤ gs) := ⟨by rw [hgs]; exact HB2.out.size⟩; have HB3 : Aside0 (Below w.heap.size w w2) := ⟨below_step HB2.out HBc⟩; clear hbox HBc HI HB2 hgs) | ((with_reducible refine gate_dst (N := 13) rfl ?_); refine box_event ?hg (N := 13) ?hd (cs := ((List.replicate 200 false).map Value.bool).toArray) (t := 68) ?hr ?_; (case hd => rfl); (case hg => rfl); (case hr => first | (go_simp; done) | (go_simp; rfl) | (go_simp; kernel_rfl)); intro gd hgd w3 hbox HBc; have HD := Aside0.mk hbox; have HS3 := Aside0.mk (blk_below HS.out HBc); have HI3 : Aside0 (∀ B, IsP B w3 g m (init wt ag ps)) := ⟨fun B => (HI2.out B).below HBc⟩; have HGD : Aside0 (w.heap.size ≤ gd) := ⟨by rw [hgd]; exact HB3.out.size⟩; have HB4 : Aside0 (Below w.heap.size w w3) := ⟨below_step HB3.out HBc⟩; clear hbox HBc HI2 HB3 hgd HS) | ((with_reducible refine gate_dst (N := 15) rfl ?_); refine box_event ?hg (N := 15) ?hd (cs := #[.int .i64 0, .int .i64 0, .int .i64 0, .int .i64 0, .int .i64 0, .slice none 0 0, .int .i64 0, .int .i64 0, .int .i64 0]) (t := 39) ?hr ?_; (case hd => rfl); (case hg => rfl); (case hr => first | (go_simp; done) | (go_simp; rfl) | (go_simp; kernel_rfl)); intro gl hgl w4 hbox HBc; have HLB := Aside0.mk hbox; have HS4 := Aside0.mk (blk_below HS3.out HBc); have HD4 := Aside0.mk (blk_below HD.out HBc); have HI4 : Aside0 (∀ B, IsP B w4 g m (init wt ag ps)) := ⟨fun B => (HI3.out B).below HBc⟩; have HGL : Aside0 (w.heap.size ≤ gl) := ⟨by rw [hgl]; exact HB4.out.size⟩; have HB5 : Aside0 (Below w.heap.size w w4) := ⟨below_step HB4.out HBc⟩; clear hbox HBc HI3 HB4 hgl HS3 HD; refine cl9_ HLB.out ?_; intro lc0 lc1 lc2 lc3 lc4 lc5 lc6 lc7 lc8 lf0 lf1 lf2 lf3 lf4 lf5 lf6 lf7 lf8) | ((with_reducible refine gate_store (p := 15) rfl ?_); refine store_event (w1 := ?_) rfl (p := 15) rfl rfl ?hr ?_; rotate_left; (case hr => go_simp; rfl); intro w5 hw_; have hput : w5.heap[gl]? = some (.cells #[.int .i64 0, .int .i64 0, .int .i64 0, .int .i64 0, .int .i64 0, .slice none 0 0, .int .i64 0, .int .i64 0, .int .i64 0] 39 (0, 0)) := (by rw [hw_]; refine blk_put (cs := #[.int .i64 0, .int .i64 0, .int .i64 0, .int .i64 0, .int .i64 0, .slice none 0 0, .int .i64 0, .int .i64 0, .int .i64 0]) ?_ 8 _ rfl; refine blk_put (cs := #[.int .i64 0, .int .i64 0, .int .i64 0, .int .i64 0, .int .i64 0, .slice none 0 0, .int .i64 0, .int .i64 0, .int .i64 0]) ?_ 7 _ rfl; refine blk_put (cs := #[.int .i64 0, .int .i64 0, .int .i64 0, .int .i64 0, .int .i64 0, .slice none 0 0, .int .i64 0, .int .i64 0, .int .i64 0]) ?_ 6 _ rfl; refine blk_put (cs := #[.int .i64 0, .int .i64 0, .int .i64 0, .int .i64 0, .int .i64 0, .slice none 0 0, .int .i64 0, .int .i64 0, .int .i64 0]) ?_ 5 _ rfl; refine blk_put (cs := #[.int .i64 0, .int .i64 0, .int .i64 0, .int .i64 0, .int .i64 0, .slice none 0 0, .int .i64 0, .int .i64 0, .int .i64 0]) ?_ 4 _ rfl; refine blk_put (cs := #[.int .i64 0, .int .i64 0, .int .i64 0, .int .i64 0, .int .i64 0, .slice none 0 0, .int .i64 0, .int .i64 0, .int .i64 0]) ?_ 3 _ rfl; refine blk_put (cs := #[.int .i64 0, .int .i64 0, .int .i64 0, .int .i64 0, .int .i64 0, .slice none 0 0, .int .i64 0, .int .i64 0, .int .i64 0]) ?_ 2 _ rfl; refine blk_put (cs := #[.int .i64 0, .int .i64 0, .int .i64 0, .int .i64 0, .int .i64 0, .slice none 0 0, .int .i64 0, .int .i64 0, .int .i64 0]) ?_ 1 _ rfl; refine blk_put (cs := #[.int .i64 0, .int .i64 0, .int .i64 0, .int .i64 0, .int .i64 0, .slice none 0 0, .int .i64 0, .int .i64 0, .int .i64 0]) ?_ 0 _ rfl; exact HLB.out); have HEc : Ext (fun k => k = gl) w4 w5 := (by rw [hw_]; exact ((((((((((Ext.refl _ _).setg _).setg _).setg _).setg _).setg _).setg _).setg _).setg _).setg _)); clear hw_ lc0 lc1 lc2 lc3 lc4 lc5 lc6 lc7 lc8 lf0 lf1 lf2 lf3 lf4 lf5 lf6 lf7 lf8; have HST0 : Aside0 (St w w5.heap.size g m gs gd gl w5 (init wt ag ps) (List.replicate 200 0) (List.replicate 200 false) ⟨0, 0, PK.z31⟩ none 0) := ⟨st0_ HI4.out HS4.out HD4.out HLB.out hput HEc HG.out HM.out HGS.out HGD.out HGL.out HB5.out⟩; clear hput HEc HI4 HS4 HD4 HLB HB5))
 clear c1 c2
 obtain ⟨B, hB⟩ : ∃ B, B = w5.heap.size := ⟨_, rfl⟩
 rw [← hB] at HST0
 have HINV0 := Aside0.mk (inv0 wt ag ps)
 clear hB
 go_loopg [11, 14, 16] os.length (fun k v11 v14 v16 wr => ∃ (i n : Nat) (s : PS) (sn : List Int) (dn : List Bool) (lp : PQ) (Al : Option Addr) (kl : Nat) (ov : Int), k = os.length - i ∧ v11 = .int .i64 (n : Int) ∧ v14 = .int .i64 ov ∧ v16 = .int .i64 (i : Int) ∧ Aside0 (i ≤ os.length ∧ n ≤ i) ∧ Aside0 (Inv ag n s sn dn lp ov) ∧ Aside0 (St w B g m gs gd gl wr s (sn) (dn) (lp) Al kl))
 case atStart => exact ⟨0, 0, _, _, _, _, _, _, 0, by simp, rfl, rfl, rfl, ⟨Nat.zero_le _, Nat.le_refl _⟩, HINV0, HST0⟩
 case round =>
  clear HST0 HINV0
  obtain ⟨i, n, s, sn, dn, lp, Al, kl, ov, hgk, rfl, rfl, rfl, HA, HINV, HST⟩ := hrel
  have HGK := Aside0.mk hgk; clear hgk
  by_cases hlt : ¬ (i < os.length)
  ·as_aux_lemma =>
    obtain rfl : i = os.length := by have := HA.out; omega
    have c0 : decide ((os.length : Int) < (os.length : Int)) = false := by simp
    have HNB : Aside0 (n ≤ 150) := ⟨by have := HA.out; have := HFW.out.1; omega⟩
    clear hlt
    go_wp2_with (fail)
    go_loopg [27, 28] n (fun k v27 v28 wq => ∃ j : Nat, k = n - j ∧ j ≤ n ∧ v27 = .int .i64 (undone dn j) ∧ v28 = .int .i64 ((j + 1 : Nat) : Int) ∧ wq = wr)
    case atStart => exact ⟨0, by simp, Nat.zero_le _, rfl, rfl, rfl⟩
    case round =>
     obtain ⟨j, hgq, hjn, rfl, rfl, rfl⟩ := hrel
     by_cases hjl : j < n
     ·skip
      have d0 : decide (((j + 1 : Nat) : Int) ≤ (n : Int)) = true := decide_eq_true (by omega); have d1 : decide ((j : Int) + 1 ≤ (n : Int)) = true := decide_eq_true (by omega); have d2 : decide (j + 1 ≤ n) = true := decide_eq_true (by omega); have d3 : decide (j < n) = true := decide_eq_true hjl
      have lb := bool_cell (i := j + 1) HST.out.bd (by rw [HINV.out.ld]; have := HNB.out; omega)
      have hl2 : j + 1 < 200 := by have := HNB.out; omega
      have hw1 : wrap64 (((j + 1 : Nat) : Int) + 1) = ((j + 1 + 1 : Nat) : Int) := by have := HNB.out; unfold wrap64; omega
      have hu := cnt_le dn j
      have hw2 : wrap64 (undone dn j + 1) = undone dn j + 1 := by have := HNB.out; unfold wrap64; omega
      have HW1 := Aside0.mk hw1; have HW2 := Aside0.mk hw2; clear hw1 hw2 hu
      obtain ⟨b, hb⟩ : ∃ b, dn.getD (j + 1) false = b := ⟨_, rfl⟩
      rw [hb] at lb
      have HBB := Aside0.mk hb; clear hb
      have HJ := Aside0.mk hjl; have HGQ := Aside0.mk hgq; clear hjl hjn hgq
      cases b
      ·skip
       go_wp2
       go_roundg (n - (j + 1))
       case measure => (have := HJ.out; have := HGQ.out; omega)
       case rel => exact ⟨j + 1, rfl, HJ.out, by show _ = Value.int .i64 (undone dn j + (if dn.getD (j + 1) false then 0 else 1)); rw [HBB.out]; first | (rw [HW2.out]; rfl; done) | (simp; done) | (congr 1; simp; done) | (congr 1; omega), congrArg (Value.int .i64) (by first | exact HW1.out | omega), rfl⟩
      ·skip
       go_wp2
       go_roundg (n - (j + 1))
       case measure => (have := HJ.out; have := HGQ.out; omega)
       case rel => exact ⟨j + 1, rfl, HJ.out, by show _ = Value.int .i64 (undone dn j + (if dn.getD (j + 1) false then 0 else 1)); rw [HBB.out]; first | (rw [HW2.out]; rfl; done) | (simp; done) | (congr 1; simp; done) | (congr 1; omega), congrArg (Value.int .i64) (by first | exact HW1.out | omega), rfl⟩
     obtain rfl : j = n := by omega
     have d0 : decide (((j + 1 : Nat) : Int) ≤ (j : Int)) = false := decide_eq_false (by omega); have d1 : decide ((j : Int) + 1 ≤ (j : Int)) = false := decide_eq_false (by omega); have d2 : decide (j + 1 ≤ j) = false := decide_eq_false (by omega); have d3 : decide (j < j) = false := by simp
     clear hjl hgq hjn
     have HCN : Aside0 (undone dn j = countF s) := ⟨HINV.out.cnt⟩
     go_wp2_with (first | (go_at_call 9; refine (MsgH.awake_c _).mono ?_; rintro e w9 ⟨rfl, HBc⟩; have HB9 : Aside0 (Below w.heap.size w w9) := ⟨below_step HST.out.be HBc⟩; have HST9 := Aside0.mk (HST.out.below HBc); clear HBc) | (go_at_call 16; refine (count_p HST9.out.p HST9.out.sz HINV.out.ok).mono ?_; rintro e w' ⟨rfl, rfl⟩; rw [← HCN.out]))
     go_ret
     exact ⟨by simp, HB9.out⟩
  have hlt := Decidable.of_not_not hlt
  obtain ⟨ad, A6, c6, A10, c10, ead, HE⟩ := el_at HV.out i hlt
  subst ead
  have hfo := HFW.out.at_ hlt
  have hbo : MathP.Bytes (os.getD i PK.z61).f4 := HBY.out _ (by rw [List.getD_eq_getElem?_getD, List.getElem?_eq_getElem hlt]; exact List.getElem_mem hlt)
  obtain ⟨o, ho⟩ : ∃ o, os.getD i PK.z61 = o := ⟨_, rfl⟩
  rw [ho] at HE hfo hbo
  have HE := Aside0.mk HE; have HFO := Aside0.mk hfo; have HBO := Aside0.mk hbo; clear ho hfo hbo
  have c0 : decide ((i : Int) < (os.length : Int)) = true := decide_eq_true (by omega); have c0n : decide (i < os.length) = true := decide_eq_true hlt
  have HLT := Aside0.mk hlt; clear hlt
  obtain ⟨e0, e1, e2, e3, e4, e5, e6, e7, e8, e9, e10, e11⟩ := HE.out.cells wr HST.out.be
  go_upto_block 2 with (first | ((with_reducible refine gate_dst (N := 17) rfl ?_); refine box_event ?hg (N := 17) ?hd (cs := #[.int .i64 0, .int .i64 0, .int .i64 0, .int .i64 0, .int .i64 0, .int .i64 0, .slice none 0 0, .int .i64 0, .int .i64 0, .int .i64 0, .slice none 0 0, .int .i64 0]) (t := 61) ?hr ?_; (case hd => rfl); (case hg => rfl); (case hr => first | (go_simp; done) | (go_simp; rfl) | (go_simp; kernel_rfl)); intro go hgo wa hbox HBc; have HOB := Aside0.mk hbox; have HSTa := Aside0.mk (HST.out.below HBc); have HGO : Aside0 (w.heap.size ≤ go) := ⟨by rw [hgo]; exact HST.out.be.size⟩; clear hbox HBc HST hgo; refine cl12_ HOB.out ?_; intro lo0 lo1 lo2 lo3 lo4 lo5 lo6 lo7 lo8 lo9 lo10 lo11 lof0 lof1 lof2 lof3 lof4 lof5 lof6 lof7 lof8 lof9 lof10 lof11) | ((with_reducible refine gate_store (p := 17) rfl ?_); refine store_event (w1 := ?_) rfl (p := 17) rfl rfl ?hr ?_; rotate_left; (case hr => go_simp; rfl); intro wb hw_; have hput : wb.heap[go]? = some (.cells #[.int .i64 o.f0, .int .i64 o.f1, .int .i64 o.f2, .int .i64 o.f3.f0, .int .i64 o.f3.f1, .int .i64 o.f3.f2, .slice A6 o.f3.f3.length c6, .int .i64 o.f3.f4, .int .i64 o.f3.f5, .int .i64 o.f3.f6, .slice A10 o.f4.length c10, .int .i64 o.f5] 61 (0, 0)) := (by rw [hw_]; refine blk_put (cs := #[.int .i64 o.f0, .int .i64 o.f1, .int .i64 o.f2, .int .i64 o.f3.f0, .int .i64 o.f3.f1, .int .i64 o.f3.f2, .slice A6 o.f3.f3.length c6, .int .i64 o.f3.f4, .int .i64 o.f3.f5, .int .i64 o.f3.f6, .slice A10 o.f4.length c10, .int .i64 0]) ?_ 11 _ rfl; refine blk_put (cs := #[.int .i64 o.f0, .int .i64 o.f1, .int .i64 o.f2, .int .i64 o.f3.f0, .int .i64 o.f3.f1, .int .i64 o.f3.f2, .slice A6 o.f3.f3.length c6, .int .i64 o.f3.f4, .int .i64 o.f3.f5, .int .i64 o.f3.f6, .slice none 0 0, .int .i64 0]) ?_ 10 _ rfl; refine blk_put (cs := #[.int .i64 o.f0, .int .i64 o.f1, .int .i64 o.f2, .int .i64 o.f3.f0, .int .i64 o.f3.f1, .int .i64 o.f3.f2, .slice A6 o.f3.f3.length c6, .int .i64 o.f3.f4, .int .i64 o.f3.f5, .int .i64 0, .slice none 0 0, .int .i64 0]) ?_ 9 _ rfl; refine blk_put (cs := #[.int .i64 o.f0, .int .i64 o.f1, .int .i64 o.f2, .int .i64 o.f3.f0, .int .i64 o.f3.f1, .int .i64 o.f3.f2, .slice A6 o.f3.f3.length c6, .int .i64 o.f3.f4, .int .i64 0, .int .i64 0, .slice none 0 0, .int .i64 0]) ?_ 8 _ rfl; refine blk_put (cs := #[.int .i64 o.f0, .int .i64 o.f1, .int .i64 o.f2, .int .i64 o.f3.f0, .int .i64 o.f3.f1, .int .i64 o.f3.f2, .slice A6 o.f3.f3.length c6, .int .i64 0, .int .i64 0, .int .i64 0, .slice none 0 0, .int .i64 0]) ?_ 7 _ rfl; refine blk_put (cs := #[.int .i64 o.f0, .int .i64 o.f1, .int .i64 o.f2, .int .i64 o.f3.f0, .int .i64 o.f3.f1, .int .i64 o.f3.f2, .slice none 0 0, .int .i64 0, .int .i64 0, .int .i64 0, .slice none 0 0, .int .i64 0]) ?_ 6 _ rfl; refine blk_put (cs := #[.int .i64 o.f0, .int .i64 o.f1, .int .i64 o.f2, .int .i64 o.f3.f0, .int .i64 o.f3.f1, .int .i64 0, .slice none 0 0, .int .i64 0, .int .i64 0, .int .i64 0, .slice none 0 0, .int .i64 0]) ?_ 5 _ rfl; refine blk_put (cs := #[.int .i64 o.f0, .int .i64 o.f1, .int .i64 o.f2, .int .i64 o.f3.f0, .int .i64 0, .int .i64 0, .slice none 0 0, .int .i64 0, .int .i64 0, .int .i64 0, .slice none 0 0, .int .i64 0]) ?_ 4 _ rfl; refine blk_put (cs := #[.int .i64 o.f0, .int .i64 o.f1, .int .i64 o.f2, .int .i64 0, .int .i64 0, .int .i64 0, .slice none 0 0, .int .i64 0, .int .i64 0, .int .i64 0, .slice none 0 0, .int .i64 0]) ?_ 3 _ rfl; refine blk_put (cs := #[.int .i64 o.f0, .int .i64 o.f1, .int .i64 0, .int .i64 0, .int .i64 0, .int .i64 0, .slice none 0 0, .int .i64 0, .int .i64 0, .int .i64 0, .slice none 0 0, .int .i64 0]) ?_ 2 _ rfl; refine blk_put (cs := #[.int .i64 o.f0, .int .i64 0, .int .i64 0, .int .i64 0, .int .i64 0, .int .i64 0, .slice none 0 0, .int .i64 0, .int .i64 0, .int .i64 0, .slice none 0 0, .int .i64 0]) ?_ 1 _ rfl; refine blk_put (cs := #[.int .i64 0, .int .i64 0, .int .i64 0, .int .i64 0, .int .i64 0, .int .i64 0, .slice none 0 0, .int .i64 0, .int .i64 0, .int .i64 0, .slice none 0 0, .int .i64 0]) ?_ 0 _ rfl; exact HOB.out); have HEc : Ext (fun k => k = go) wa wb := (by rw [hw_]; exact (((((((((((((Ext.refl _ _).setg _).setg _).setg _).setg _).setg _).setg _).setg _).setg _).setg _).setg _).setg _).setg _)); clear hw_ lo0 lo1 lo2 lo3 lo4 lo5 lo6 lo7 lo8 lo9 lo10 lo11 lof0 lof1 lof2 lof3 lof4 lof5 lof6 lof7 lof8 lof9 lof10 lof11 e0 e1 e2 e3 e4 e5 e6 e7 e8 e9 e10 e11; have HOC := Aside0.mk hput; have HSTb := Aside0.mk (HSTa.out.over HEc HOB.out (by decide) (by decide) (by decide) (by decide) (by decide) HGO.out); clear hput HEc HOB HSTa; refine cl12_ HOC.out ?_; intro lo0 lo1 lo2 lo3 lo4 lo5 lo6 lo7 lo8 lo9 lo10 lo11 lof0 lof1 lof2 lof3 lof4 lof5 lof6 lof7 lof8 lof9 lof10 lof11))
  clear lo0 lo1 lo2 lo3 lo4 lo5 lo6 lo7 lo8 lo9 lo10 lo11 lof0 lof1 lof2 lof3 lof4 lof5 lof6 lof7 lof8 lof9 lof10 lof11
  go_cut [11, 18, 19] (fun v11 v18 v19 wc => ∃ (n' : Nat) (s' : PS) (d : Option (Int × Bool)) (a : Option PQ), v11 = .int .i64 (n' : Int) ∧ Aside0 (n' ≤ i + 1) ∧ Aside0 (Mid ag n' s' sn dn lp ov d a) ∧ Aside0 (St w B g m gs gd gl wc s' (sn) (dn) (lp) Al kl) ∧ Aside0 (SentP wc v18 a) ∧ Aside0 (DP wc v19 d))
  case first =>
   as_aux_lemma =>
    have HNI : Aside0 (n < 190) := ⟨by have h1 := HA.out; have h2 := HFW.out.1; omega⟩
    have HAG : Aside0 (0 ≤ ag ∧ ag ≤ 16) := ⟨HN.out.2.1, HN.out.2.2.1⟩
    refine cl12_ HOC.out ?_; intro lo0 lo1 lo2 lo3 lo4 lo5 lo6 lo7 lo8 lo9 lo10 lo11 lof0 lof1 lof2 lof3 lof4 lof5 lof6 lof7 lof8 lof9 lof10 lof11
    by_cases h0 : o.f0 = 0
    ·have f0 : (o.f0 == 0) = true := beq_iff_eq.2 h0; clear h0
     obtain ⟨tf, htf⟩ : ∃ x, x = (askF s o.f2 o.f3).2.1 := ⟨_, rfl⟩; obtain ⟨ff, hff⟩ : ∃ x, x = (askF s o.f2 o.f3).2.2 := ⟨_, rfl⟩
     have hm := mid_ask HINV.out HNI.out o.f2 o.f3
     rw [← htf, ← hff] at hm
     have HTF := Aside0.mk htf; have HFF := Aside0.mk hff; clear htf hff
     rcases hm with ⟨hz, ht, hm⟩ | ⟨hz, hm⟩
     ·have HMD := Aside0.mk hm; clear hm
      have f1 : (ff == 0) = true := beq_iff_eq.2 hz
      have hw1 : wrap64 ((n : Int) + 1) = tf := by have := HNI.out; rw [ht]; unfold wrap64; omega
      have HT := Aside0.mk ht; have HW1 := Aside0.mk hw1; clear hz ht
      go_wp2_with ((go_at_call 11; refine (ask_p HSTb.out.p HSTb.out.sz o.f2 o.f3 A6 c6 (HE.out.ever HSTb.out.be HSTb.out.mm)).mono ?_; rintro e wx ⟨he, hp, hx, hk⟩; rw [← HTF.out, ← HFF.out] at he; subst he; have HSTx := Aside0.mk (HSTb.out.call hp hx hk); clear hp hx hk HSTb lo0 lo1 lo2 lo3 lo4 lo5 lo6 lo7 lo8 lo9 lo10 lo11 lof0 lof1 lof2 lof3 lof4 lof5 lof6 lof7 lof8 lof9 lof10 lof11))
      go_meet
      case rel => exact ⟨n + 1, _, none, none, congrArg (Value.int .i64) (by first | exact HW1.out.trans HT.out | exact HT.out | omega), ⟨by have := HA.out; omega⟩, HMD, HSTx, ⟨rfl⟩, ⟨rfl⟩⟩
     ·have HMD := Aside0.mk hm; clear hm
      have f1 : (ff == 0) = false := beq_eq_false_iff_ne.2 hz
      clear hz
      go_wp2_with ((go_at_call 11; refine (ask_p HSTb.out.p HSTb.out.sz o.f2 o.f3 A6 c6 (HE.out.ever HSTb.out.be HSTb.out.mm)).mono ?_; rintro e wx ⟨he, hp, hx, hk⟩; rw [← HTF.out, ← HFF.out] at he; subst he; have HSTx := Aside0.mk (HSTb.out.call hp hx hk); clear hp hx hk HSTb lo0 lo1 lo2 lo3 lo4 lo5 lo6 lo7 lo8 lo9 lo10 lo11 lof0 lof1 lof2 lof3 lof4 lof5 lof6 lof7 lof8 lof9 lof10 lof11))
      go_meet
      case rel => exact ⟨n, _, none, none, rfl, ⟨by have := HA.out; omega⟩, ⟨HMD.out⟩, ⟨HSTx.out⟩, ⟨rfl⟩, ⟨rfl⟩⟩
    have f0 : (o.f0 == 0) = false := beq_eq_false_iff_ne.2 h0; clear h0
    by_cases h1 : o.f0 = 1
    ·have f1 : (o.f0 == 1) = true := beq_iff_eq.2 h1; clear h1
     by_cases ht : 0 ≤ o.f1 ∧ s.now ≤ o.f1
     ·have HTT := Aside0.mk ht; clear ht
      go_wp2_with ((go_at_call 12; refine (step_p HSTb.out.p HSTb.out.sz HINV.out.ok o.f1 HTT.out.1 HTT.out.2).mono ?_; rintro e wx ⟨va, vd, rfl, hs, hd, hp, hx, hk⟩; have HSTx := Aside0.mk (HSTb.out.call hp (extG hx) hk); have HSN := Aside0.mk hs; have HDN := Aside0.mk hd; clear hp hx hk hs hd HSTb lo0 lo1 lo2 lo3 lo4 lo5 lo6 lo7 lo8 lo9 lo10 lo11 lof0 lof1 lof2 lof3 lof4 lof5 lof6 lof7 lof8 lof9 lof10 lof11))
      go_meet
      case rel => exact ⟨n, _, _, _, rfl, ⟨by have := HA.out; omega⟩, ⟨mid_step HINV.out (by have := HNI.out; omega) HAG.out.1 HAG.out.2 o.f1⟩, ⟨HSTx.out⟩, ⟨HSN.out⟩, ⟨dp_step HDN.out⟩⟩
     have HTT : Aside0 (o.f1 < 0 ∨ o.f1 < s.now) := ⟨by omega⟩; clear ht
     go_wp2_with ((go_at_call 12; refine (step_no HSTb.out.p HSTb.out.sz o.f1 HTT.out).mono ?_; rintro e wx ⟨rfl, rfl⟩))
     go_meet
     case rel => exact ⟨n, s, none, none, rfl, ⟨by have := HA.out; omega⟩, ⟨Mid.same HINV.out⟩, ⟨HSTb.out⟩, ⟨rfl⟩, ⟨rfl⟩⟩
    have f1 : (o.f0 == 1) = false := beq_eq_false_iff_ne.2 h1; clear h1
    by_cases h3 : o.f0 = 3 ∧ 0 < ov
    ·have f2 : (o.f0 == 3) = true := beq_iff_eq.2 h3.1; have f3 : decide (0 < ov) = true := decide_eq_true h3.2
     have HLQ : Aside0 (mayQ lp.q = true) := ⟨lp_may HINV.out h3.2⟩; clear h3
     refine cl9_ HSTb.out.bl ?_; intro lc0 lc1 lc2 lc3 lc4 lc5 lc6 lc7 lc8 lf0 lf1 lf2 lf3 lf4 lf5 lf6 lf7 lf8
     by_cases ht : 0 ≤ o.f1 ∧ s.now ≤ o.f1
     ·have HTT := Aside0.mk ht; clear ht
      go_wp2_with (first | (go_at_call 15; refine (answer_q HLQ.out (irow_C HSTb.out.rl) HSTb.out.cl o.f5).mono ?_; rintro e wy ⟨Ab, cb, rfl, hcb, hev, HBc⟩; have HEV : Aside0 (Ever (fun k => k = g) wy (fun W => Kd.C (Kd.int .u8) W Ab (ansQ lp.q o.f5).length (ansQ lp.q o.f5))) := ⟨hev _ (fun k e => by rw [show k = g from e]; exact HSTb.out.p.lt)⟩; have HCB := Aside0.mk hcb; have HSTy := Aside0.mk (HSTb.out.below HBc); have HOy := Aside0.mk (blk_below HOC.out HBc); have HAB := Aside0.mk (ans_bytes HLQ.out o.f5); obtain ⟨bs, hbs⟩ : ∃ bs, bs = ansQ lp.q o.f5 := ⟨_, rfl⟩; rw [← hbs] at HEV HCB HAB ⊢; clear hcb hev HBc hbs HSTb lo0 lo1 lo2 lo3 lo4 lo5 lo6 lo7 lo8 lo9 lo10 lo11 lof0 lof1 lof2 lof3 lof4 lof5 lof6 lof7 lof8 lof9 lof10 lof11 lc0 lc1 lc2 lc3 lc4 lc5 lc6 lc7 lc8 lf0 lf1 lf2 lf3 lf4 lf5 lf6 lf7 lf8; refine cl12_ HOy.out ?_; intro lo0 lo1 lo2 lo3 lo4 lo5 lo6 lo7 lo8 lo9 lo10 lo11 lof0 lof1 lof2 lof3 lof4 lof5 lof6 lof7 lof8 lof9 lof10 lof11; refine cl9_ HSTy.out.bl ?_; intro lc0 lc1 lc2 lc3 lc4 lc5 lc6 lc7 lc8 lf0 lf1 lf2 lf3 lf4 lf5 lf6 lf7 lf8) | (go_at_call 14; refine (came_p HSTy.out.p HSTy.out.sz HINV.out.ok o.f1 HTT.out.1 HTT.out.2 lp.u Ab cb HAB.out.1 HAB.out.2 HCB.out HEV.out).mono ?_; rintro e wx ⟨va, rfl, hd, hp, hx, hk⟩; have HSTx := Aside0.mk (HSTy.out.call hp (extG hx) hk); have HDN := Aside0.mk hd; clear hp hx hk hd HSTy lo0 lo1 lo2 lo3 lo4 lo5 lo6 lo7 lo8 lo9 lo10 lo11 lof0 lof1 lof2 lof3 lof4 lof5 lof6 lof7 lof8 lof9 lof10 lof11 lc0 lc1 lc2 lc3 lc4 lc5 lc6 lc7 lc8 lf0 lf1 lf2 lf3 lf4 lf5 lf6 lf7 lf8))
      go_meet
      case rel => exact ⟨n, _, _, none, rfl, ⟨by have := HA.out; omega⟩, ⟨mid_came HINV.out (by have := HNI.out; omega) o.f1 lp.u bs⟩, ⟨HSTx.out⟩, ⟨rfl⟩, ⟨dp_came HDN.out⟩⟩
     have HTT : Aside0 (o.f1 < 0 ∨ o.f1 < s.now) := ⟨by omega⟩; clear ht
     go_wp2_with (first | (go_at_call 15; refine (answer_q HLQ.out (irow_C HSTb.out.rl) HSTb.out.cl o.f5).mono ?_; rintro e wy ⟨Ab, cb, rfl, hcb, hev, HBc⟩; have HEV : Aside0 (Ever (fun k => k = g) wy (fun W => Kd.C (Kd.int .u8) W Ab (ansQ lp.q o.f5).length (ansQ lp.q o.f5))) := ⟨hev _ (fun k e => by rw [show k = g from e]; exact HSTb.out.p.lt)⟩; have HCB := Aside0.mk hcb; have HSTy := Aside0.mk (HSTb.out.below HBc); have HOy := Aside0.mk (blk_below HOC.out HBc); have HAB := Aside0.mk (ans_bytes HLQ.out o.f5); obtain ⟨bs, hbs⟩ : ∃ bs, bs = ansQ lp.q o.f5 := ⟨_, rfl⟩; rw [← hbs] at HEV HCB HAB ⊢; clear hcb hev HBc hbs HSTb lo0 lo1 lo2 lo3 lo4 lo5 lo6 lo7 lo8 lo9 lo10 lo11 lof0 lof1 lof2 lof3 lof4 lof5 lof6 lof7 lof8 lof9 lof10 lof11 lc0 lc1 lc2 lc3 lc4 lc5 lc6 lc7 lc8 lf0 lf1 lf2 lf3 lf4 lf5 lf6 lf7 lf8; refine cl12_ HOy.out ?_; intro lo0 lo1 lo2 lo3 lo4 lo5 lo6 lo7 lo8 lo9 lo10 lo11 lof0 lof1 lof2 lof3 lof4 lof5 lof6 lof7 lof8 lof9 lof10 lof11; refine cl9_ HSTy.out.bl ?_; intro lc0 lc1 lc2 lc3 lc4 lc5 lc6 lc7 lc8 lf0 lf1 lf2 lf3 lf4 lf5 lf6 lf7 lf8) | (go_at_call 14; refine (came_no HSTy.out.p HSTy.out.sz o.f1 HTT.out lp.u Ab bs.length cb).mono ?_; rintro e wx ⟨rfl, rfl⟩))
     go_meet
     case rel => exact ⟨n, s, none, none, rfl, ⟨by have := HA.out; omega⟩, ⟨Mid.same HINV.out⟩, ⟨HSTy.out⟩, ⟨rfl⟩, ⟨rfl⟩⟩
    have f2 : (o.f0 == 3) = false ∨ ((o.f0 == 3) = true ∧ decide (0 < ov) = false) := by by_cases a : o.f0 = 3; exact .inr ⟨beq_iff_eq.2 a, decide_eq_false (fun q => h3 ⟨a, q⟩)⟩; exact .inl (beq_eq_false_iff_ne.2 a)
    clear h3
    refine cl9_ HSTb.out.bl ?_; intro lc0 lc1 lc2 lc3 lc4 lc5 lc6 lc7 lc8 lf0 lf1 lf2 lf3 lf4 lf5 lf6 lf7 lf8
    by_cases ht : 0 ≤ o.f1 ∧ s.now ≤ o.f1
    ·have HTT := Aside0.mk ht; clear ht
     rcases f2 with f2 | ⟨f2, f3⟩
     ·skip
      go_wp2_with ((go_at_call 14; refine (came_p HSTb.out.p HSTb.out.sz HINV.out.ok o.f1 HTT.out.1 HTT.out.2 lp.u A10 c10 HBO.out (by have := HFO.out.2.1; omega) HE.out.cap (HE.out.everb HSTb.out.be HSTb.out.gm)).mono ?_; rintro e wx ⟨va, rfl, hd, hp, hx, hk⟩; have HSTx := Aside0.mk (HSTb.out.call hp (extG hx) hk); have HDN := Aside0.mk hd; clear hp hx hk hd HSTb lo0 lo1 lo2 lo3 lo4 lo5 lo6 lo7 lo8 lo9 lo10 lo11 lof0 lof1 lof2 lof3 lof4 lof5 lof6 lof7 lof8 lof9 lof10 lof11 lc0 lc1 lc2 lc3 lc4 lc5 lc6 lc7 lc8 lf0 lf1 lf2 lf3 lf4 lf5 lf6 lf7 lf8))
      go_meet
      case rel => exact ⟨n, _, _, none, rfl, ⟨by have := HA.out; omega⟩, ⟨mid_came HINV.out (by have := HNI.out; omega) o.f1 lp.u o.f4⟩, ⟨HSTx.out⟩, ⟨rfl⟩, ⟨dp_came HDN.out⟩⟩
     ·skip
      go_wp2_with ((go_at_call 14; refine (came_p HSTb.out.p HSTb.out.sz HINV.out.ok o.f1 HTT.out.1 HTT.out.2 lp.u A10 c10 HBO.out (by have := HFO.out.2.1; omega) HE.out.cap (HE.out.everb HSTb.out.be HSTb.out.gm)).mono ?_; rintro e wx ⟨va, rfl, hd, hp, hx, hk⟩; have HSTx := Aside0.mk (HSTb.out.call hp (extG hx) hk); have HDN := Aside0.mk hd; clear hp hx hk hd HSTb lo0 lo1 lo2 lo3 lo4 lo5 lo6 lo7 lo8 lo9 lo10 lo11 lof0 lof1 lof2 lof3 lof4 lof5 lof6 lof7 lof8 lof9 lof10 lof11 lc0 lc1 lc2 lc3 lc4 lc5 lc6 lc7 lc8 lf0 lf1 lf2 lf3 lf4 lf5 lf6 lf7 lf8))
      go_meet
      case rel => exact ⟨n, _, _, none, rfl, ⟨by have := HA.out; omega⟩, ⟨mid_came HINV.out (by have := HNI.out; omega) o.f1 lp.u o.f4⟩, ⟨HSTx.out⟩, ⟨rfl⟩, ⟨dp_came HDN.out⟩⟩
    have HTT : Aside0 (o.f1 < 0 ∨ o.f1 < s.now) := ⟨by omega⟩; clear ht
    rcases f2 with f2 | ⟨f2, f3⟩
    ·skip
     go_wp2_with ((go_at_call 14; refine (came_no HSTb.out.p HSTb.out.sz o.f1 HTT.out lp.u A10 o.f4.length c10).mono ?_; rintro e wx ⟨rfl, rfl⟩))
     go_meet
     case rel => exact ⟨n, s, none, none, rfl, ⟨by have := HA.out; omega⟩, ⟨Mid.same HINV.out⟩, ⟨HSTb.out⟩, ⟨rfl⟩, ⟨rfl⟩⟩
    ·skip
     go_wp2_with ((go_at_call 14; refine (came_no HSTb.out.p HSTb.out.sz o.f1 HTT.out lp.u A10 o.f4.length c10).mono ?_; rintro e wx ⟨rfl, rfl⟩))
     go_meet
     case rel => exact ⟨n, s, none, none, rfl, ⟨by have := HA.out; omega⟩, ⟨Mid.same HINV.out⟩, ⟨HSTb.out⟩, ⟨rfl⟩, ⟨rfl⟩⟩
  case rest =>
   skip
   have HLS : Aside0 (sn.length = 200) := ⟨HINV.out.ls⟩; have HLD : Aside0 (dn.length = 200) := ⟨HINV.out.ld⟩
   clear HSTb HOC HINV HGO
   obtain ⟨n', s', d, a, rfl, HNN, HMD, HSC, HSN, HDN⟩ := hcut
   have HLD2 : Aside0 ((dnOf d dn).length = 200) := ⟨by unfold dnOf; cases d with | none => exact HLD.out | some r => exact (List.length_set ..).trans HLD.out⟩
   go_upto_block 3 with (fail)
   go_cut [14] (fun v14 wz => v14 = .int .i64 (ovOf d ov) ∧ Aside0 (St w B g m gs gd gl wz s' (sn) (dnOf d dn) (lp) Al kl) ∧ Aside0 (SentP wz u18 a))
   case first =>
    cases d with
    | none =>
     have hdn := HDN.out; unfold DP at hdn; subst hdn
     clear HDN
     go_wp2_with (fail)
     go_loopg [14, 23] 0 (fun k v14 v23 wq => v14 = .int .i64 ov ∧ v23 = .int .i64 0 ∧ wq = wc)
     case atStart => exact ⟨rfl, rfl, rfl⟩
     case round =>
      obtain ⟨rfl, rfl, rfl⟩ := hrel
      go_wp2_with (fail)
      go_meet
      case rel => exact ⟨rfl, HSC, HSN⟩
    | some r =>
     obtain ⟨t, late⟩ := r
     have hdn := HDN.out; unfold DP at hdn; obtain ⟨gx, cx, rfl, lx0, lx3⟩ := hdn
     obtain ⟨j, rfl, j1, jn, j2, hd, hs, hov, hla⟩ := HMD.out.dOk t late rfl
     subst hov
     have HJ1 := Aside0.mk j1; have HJN := Aside0.mk jn; have HJ2 := Aside0.mk j2; have HDD := Aside0.mk hd; have HSS := Aside0.mk hs; have HLA := Aside0.mk hla; clear j1 jn j2 hd hs hla HDN
     have HX0 := Aside0.mk lx0; have HX3 := Aside0.mk lx3; clear lx0 lx3
     go_wp2_with (fail)
     go_loopg [14, 23] 1 (fun k v14 v23 wq => (k = 1 ∧ v14 = .int .i64 (j : Int) ∧ v23 = .int .i64 0 ∧ wq = wc) ∨ (k = 0 ∧ v14 = .int .i64 0 ∧ v23 = .int .i64 1 ∧ Aside0 (St w B g m gs gd gl wq s' (sn) (dn.set j true) (lp) Al kl) ∧ Aside0 (SentP wq u18 a)))
     case atStart => exact .inl ⟨rfl, rfl, rfl, rfl⟩
     case round =>
      rcases hrel with ⟨rfl, rfl, rfl, rfl⟩ | ⟨rfl, rfl, rfl, HSQ, HSNq⟩
      ·skip
       have lx0 := HX0.out; have lx3 := HX3.out
       have lb := bool_cell (i := j) HSC.out.bd (by rw [HLD.out]; exact HJ2.out); rw [HDD.out] at lb
       have ls := row_cell HSC.out.bs (i := j) (by rw [HLS.out]; exact HJ2.out)
       obtain ⟨x, hx⟩ : ∃ x, sn.getD j 0 = x := ⟨_, rfl⟩; rw [hx] at ls
       have hs := HSS.out; have hla := HLA.out; rw [hx] at hs hla
       have d0 : decide ((j : Int) < 1) = false := decide_eq_false (by have := HJ1.out; omega); have d0n : decide (j < 1) = false := decide_eq_false (by have := HJ1.out; omega); have d1 : decide ((n' : Int) < (j : Int)) = false := decide_eq_false (by have := HJN.out; omega); have d1n : decide (n' < j) = false := decide_eq_false (by have := HJN.out; omega); have d2 : (x == 0) = false := beq_eq_false_iff_ne.2 hs; have d3 : j < 200 := HJ2.out
       have hwa : wrap64 (ag + 1) = ag + 1 := by have := HN.out; unfold wrap64; omega
       have lbf := blk_frozen HSC.out.bd j
       cases late
       ·skip
        clear hs hla hx
        go_wp2_with (((with_reducible refine gate_store (p := 173) rfl ?_); refine store_event (w1 := ?_) rfl (p := 173) rfl rfl ?hr ?_; rotate_left; (case hr => go_simp; rfl); intro wz hw_; have HSZ := Aside0.mk (HSC.out.setD hw_); have HSNz := Aside0.mk (sent_set HSN.out hw_ HSC.out.bd (by decide) (by decide)); clear hw_ lb lbf ls lx0 lx3))
        go_roundg 0
        case measure => omega
        case rel => exact .inr ⟨rfl, rfl, rfl, HSZ, HSNz⟩
       ·skip
        have e1 : x = ag + 1 := hla rfl; subst e1
        clear hs hla hx
        go_wp2_with (((with_reducible refine gate_store (p := 173) rfl ?_); refine store_event (w1 := ?_) rfl (p := 173) rfl rfl ?hr ?_; rotate_left; (case hr => go_simp; rfl); intro wz hw_; have HSZ := Aside0.mk (HSC.out.setD hw_); have HSNz := Aside0.mk (sent_set HSN.out hw_ HSC.out.bd (by decide) (by decide)); clear hw_ lb lbf ls lx0 lx3))
        go_roundg 0
        case measure => omega
        case rel => exact .inr ⟨rfl, rfl, rfl, HSZ, HSNz⟩
      go_wp2_with (fail)
      go_meet
      case rel => exact ⟨rfl, ⟨by unfold dnOf; dsimp only; rw [Int.toNat_natCast]; exact HSQ.out⟩, HSNq⟩
   case rest =>
    clear HSC HSN HDN
    obtain ⟨rfl, HSQ, HSN⟩ := hcut
    have hinv := HMD.out.inv; have haok := HMD.out.aOk; clear HMD HLD
    generalize ovOf d ov = ov2 at hinv haok ⊢; generalize dnOf d dn = dn2 at HSQ HLD2 hinv haok ⊢
    have HINV2 := Aside0.mk hinv; have HAOK := Aside0.mk haok; clear hinv haok
    obtain ⟨wr, hwr⟩ : ∃ w_, w_ = wc := ⟨_, rfl⟩; subst hwr
    cases a with
    | none =>
     have hsn := HSN.out; unfold SentP at hsn; subst hsn; clear HSN
     go_wp2_with (fail)
     go_loopg [14, 25] 0 (fun k v14 v25 wx => v14 = .int .i64 ov2 ∧ v25 = .int .i64 0 ∧ wx = wr)
     case atStart => exact ⟨rfl, rfl, rfl⟩
     case round =>
      obtain ⟨rfl, rfl, rfl⟩ := hrel
      go_wp2_with (fail)
      have HI1 : wrap64 ((i : Int) + 1) = ((i + 1 : Nat) : Int) := by have h1 := HLT.out; have h2 := HFW.out.1; unfold wrap64; omega
      go_roundg (os.length - (i + 1))
      case measure => (have := HLT.out; have := HGK.out; omega)
      case rel => exact ⟨i + 1, n', s', _, _, _, _, _, ov2, rfl, rfl, rfl, congrArg (Value.int .i64) (by first | exact HI1 | omega), ⟨HLT.out, HNN.out⟩, ⟨by have h := HINV2.out; unfold snOf lpOf ovOf2 at h; dsimp only at h; first | exact h | (rw [Int.toNat_natCast] at h; exact h)⟩, ⟨HSQ.out⟩⟩
    | some p =>
     have hsn := HSN.out; unfold SentP at hsn; obtain ⟨ga, ca, Aa, ka, rfl, hga, hka, hra⟩ := hsn
     obtain ⟨j_, hpt, j1_, jn_, j2_, hd_, h0_, hs_, hov_, okp⟩ := HAOK.out p rfl
     have BKa := Aside0.mk hga; have HKA := Aside0.mk hka; have HRA := Aside0.mk hra; have HPT := Aside0.mk hpt; have HJ1_ := Aside0.mk j1_; have HJN_ := Aside0.mk jn_; have HJ2_ := Aside0.mk j2_; have HDD_ := Aside0.mk hd_; have H0_ := Aside0.mk h0_; have HSS_ := Aside0.mk hs_; have HOV_ := Aside0.mk hov_; have OKP := Aside0.mk okp; clear hga hka hra hpt j1_ jn_ j2_ hd_ h0_ hs_ hov_ okp HSN
     go_wp2_with (fail)
     go_loopg [14, 25] 1 (fun k v14 v25 wx => (k = 1 ∧ v14 = .int .i64 ov2 ∧ v25 = .int .i64 0 ∧ wx = wr) ∨ (k = 0 ∧ v14 = .int .i64 p.t ∧ v25 = .int .i64 1 ∧ Aside0 (St w B g m gs gd gl wx s' (sn.set j_ (sn.getD j_ 0 + 1)) (dn2) (p) Aa ka)))
     case atStart => exact .inl ⟨rfl, rfl, rfl, rfl⟩
     case round =>
      rcases hrel with ⟨rfl, rfl, rfl, rfl⟩ | ⟨rfl, rfl, rfl, HSX⟩
      ·skip
       have hpt := HPT.out
       refine cl9_ BKa.out ?_; intro la0 la1 la2 la3 la4 la5 la6 la7 la8 lg0 lg1 lg2 lg3 lg4 lg5 lg6 lg7 lg8
       rw [hpt] at la0
       have HDE : Aside0 ((dn2).getD j_ false = false) := ⟨by have h := HDD_.out; exact h⟩
       have lb := bool_cell (i := j_) HSQ.out.bd (by rw [HLD2.out]; exact HJ2_.out); rw [HDE.out] at lb
       have ls := row_cell HSQ.out.bs (i := j_) (by rw [HLS.out]; exact HJ2_.out); have lsf := blk_frozen HSQ.out.bs j_
       obtain ⟨x, hx⟩ : ∃ x, sn.getD j_ 0 = x := ⟨_, rfl⟩; rw [hx] at ls
       have h0 := H0_.out; have hs := HSS_.out; rw [hx] at h0 hs
       have d0 : decide ((j_ : Int) < 1) = false := decide_eq_false (by have := HJ1_.out; omega); have d0n : decide (j_ < 1) = false := decide_eq_false (by have := HJ1_.out; omega); have d1 : decide ((n' : Int) < (j_ : Int)) = false := decide_eq_false (by have := HJN_.out; omega); have d1n : decide (n' < j_) = false := decide_eq_false (by have := HJN_.out; omega); have d2 : decide (ag < x) = false := decide_eq_false (by omega); have d3 : j_ < 200 := HJ2_.out
       have hwx := wst (x := x) (by have := HN.out; omega) h0
       have HHX := Aside0.mk hx; have HWX := Aside0.mk hwx; clear hx h0 hs
       have hov := HOV_.out; rw [hpt] at hov
       refine cl9_ HSQ.out.bl ?_; intro lc0 lc1 lc2 lc3 lc4 lc5 lc6 lc7 lc8 lf0 lf1 lf2 lf3 lf4 lf5 lf6 lf7 lf8
       rcases hov with hov | hov
       ·skip
        have d4 : (ov2 != 0) = false := by rw [hov]; rfl
        clear hov
        go_wp2_with (first | (go_at_call 10; refine (may_q (irow_C HRA.out) OKP.out.1).mono ?_; rintro e wm ⟨rfl, HBc⟩; have HSM := Aside0.mk (HSQ.out.below HBc); have BKm := Aside0.mk (blk_below BKa.out HBc); have HRM := Aside0.mk (irow_below HRA.out HBc); clear HBc lb ls lsf lc0 lc1 lc2 lc3 lc4 lc5 lc6 lc7 lc8 lf0 lf1 lf2 lf3 lf4 lf5 lf6 lf7 lf8 la0 la1 la2 la3 la4 la5 la6 la7 la8 lg0 lg1 lg2 lg3 lg4 lg5 lg6 lg7 lg8; have ls := row_cell HSM.out.bs (i := j_) (by rw [HLS.out]; exact HJ2_.out); rw [HHX.out] at ls; have lsf := blk_frozen HSM.out.bs j_; refine cl9_ BKm.out ?_; intro la0 la1 la2 la3 la4 la5 la6 la7 la8 lg0 lg1 lg2 lg3 lg4 lg5 lg6 lg7 lg8; refine cl9_ HSM.out.bl ?_; intro lc0 lc1 lc2 lc3 lc4 lc5 lc6 lc7 lc8 lf0 lf1 lf2 lf3 lf4 lf5 lf6 lf7 lf8; rw [HPT.out] at la0) | ((with_reducible refine gate_store (p := 226) rfl ?_); refine store_event (w1 := ?_) rfl (p := 226) rfl rfl ?hr ?_; rotate_left; (case hr => go_simp; rfl); intro wz hw_; have HSZ := Aside0.mk (HSM.out.setS hw_); have BKz := Aside0.mk (blk_row hw_ HSM.out.bs BKm.out (by decide)); have HRZ := Aside0.mk (irow_row hw_ HRM.out HSM.out.bs (by decide)); clear hw_ ls lsf lc0 lc1 lc2 lc3 lc4 lc5 lc6 lc7 lc8 lf0 lf1 lf2 lf3 lf4 lf5 lf6 lf7 lf8 la0 la1 la2 la3 la4 la5 la6 la7 la8 lg0 lg1 lg2 lg3 lg4 lg5 lg6 lg7 lg8; refine cl9_ BKz.out ?_; intro la0 la1 la2 la3 la4 la5 la6 la7 la8 lg0 lg1 lg2 lg3 lg4 lg5 lg6 lg7 lg8; refine cl9_ HSZ.out.bl ?_; intro lc0 lc1 lc2 lc3 lc4 lc5 lc6 lc7 lc8 lf0 lf1 lf2 lf3 lf4 lf5 lf6 lf7 lf8; rw [HPT.out] at la0) | ((with_reducible refine gate_store (p := 15) rfl ?_); refine store_event (w1 := ?_) rfl (p := 15) rfl rfl ?hr ?_; rotate_left; (case hr => go_simp; rfl); intro wy hw_; have hput : wy.heap[gl]? = some (.cells #[.int .i64 (j_ : Int), .int .i64 p.u, .int .i64 p.q.f0, .int .i64 p.q.f1, .int .i64 p.q.f2, .slice Aa p.q.f3.length ka, .int .i64 p.q.f4, .int .i64 p.q.f5, .int .i64 p.q.f6] 39 (0, 0)) := (by rw [hw_]; refine blk_put (cs := #[.int .i64 (j_ : Int), .int .i64 p.u, .int .i64 p.q.f0, .int .i64 p.q.f1, .int .i64 p.q.f2, .slice Aa p.q.f3.length ka, .int .i64 p.q.f4, .int .i64 p.q.f5, .int .i64 lp.q.f6]) ?_ 8 _ rfl; refine blk_put (cs := #[.int .i64 (j_ : Int), .int .i64 p.u, .int .i64 p.q.f0, .int .i64 p.q.f1, .int .i64 p.q.f2, .slice Aa p.q.f3.length ka, .int .i64 p.q.f4, .int .i64 lp.q.f5, .int .i64 lp.q.f6]) ?_ 7 _ rfl; refine blk_put (cs := #[.int .i64 (j_ : Int), .int .i64 p.u, .int .i64 p.q.f0, .int .i64 p.q.f1, .int .i64 p.q.f2, .slice Aa p.q.f3.length ka, .int .i64 lp.q.f4, .int .i64 lp.q.f5, .int .i64 lp.q.f6]) ?_ 6 _ rfl; refine blk_put (cs := #[.int .i64 (j_ : Int), .int .i64 p.u, .int .i64 p.q.f0, .int .i64 p.q.f1, .int .i64 p.q.f2, .slice Al lp.q.f3.length kl, .int .i64 lp.q.f4, .int .i64 lp.q.f5, .int .i64 lp.q.f6]) ?_ 5 _ rfl; refine blk_put (cs := #[.int .i64 (j_ : Int), .int .i64 p.u, .int .i64 p.q.f0, .int .i64 p.q.f1, .int .i64 lp.q.f2, .slice Al lp.q.f3.length kl, .int .i64 lp.q.f4, .int .i64 lp.q.f5, .int .i64 lp.q.f6]) ?_ 4 _ rfl; refine blk_put (cs := #[.int .i64 (j_ : Int), .int .i64 p.u, .int .i64 p.q.f0, .int .i64 lp.q.f1, .int .i64 lp.q.f2, .slice Al lp.q.f3.length kl, .int .i64 lp.q.f4, .int .i64 lp.q.f5, .int .i64 lp.q.f6]) ?_ 3 _ rfl; refine blk_put (cs := #[.int .i64 (j_ : Int), .int .i64 p.u, .int .i64 lp.q.f0, .int .i64 lp.q.f1, .int .i64 lp.q.f2, .slice Al lp.q.f3.length kl, .int .i64 lp.q.f4, .int .i64 lp.q.f5, .int .i64 lp.q.f6]) ?_ 2 _ rfl; refine blk_put (cs := #[.int .i64 (j_ : Int), .int .i64 lp.u, .int .i64 lp.q.f0, .int .i64 lp.q.f1, .int .i64 lp.q.f2, .slice Al lp.q.f3.length kl, .int .i64 lp.q.f4, .int .i64 lp.q.f5, .int .i64 lp.q.f6]) ?_ 1 _ rfl; refine blk_put (cs := #[.int .i64 lp.t, .int .i64 lp.u, .int .i64 lp.q.f0, .int .i64 lp.q.f1, .int .i64 lp.q.f2, .slice Al lp.q.f3.length kl, .int .i64 lp.q.f4, .int .i64 lp.q.f5, .int .i64 lp.q.f6]) ?_ 0 _ rfl; exact HSZ.out.bl); have HEc : Ext (fun k => k = gl) wz wy := (by rw [hw_]; exact ((((((((((Ext.refl _ _).setg _).setg _).setg _).setg _).setg _).setg _).setg _).setg _).setg _)); clear hw_ lc0 lc1 lc2 lc3 lc4 lc5 lc6 lc7 lc8 lf0 lf1 lf2 lf3 lf4 lf5 lf6 lf7 lf8 la0 la1 la2 la3 la4 la5 la6 la7 la8 lg0 lg1 lg2 lg3 lg4 lg5 lg6 lg7 lg8; rw [← HPT.out] at hput; have HSY := Aside0.mk (HSZ.out.setL HRZ.out HKA.out hput HEc); clear hput HEc))
        go_roundg 0
        case measure => omega
        case rel => exact .inr ⟨rfl, congrArg (Value.int .i64) HPT.out.symm, rfl, ⟨by have h := HSY.out; rw [HHX.out]; first | exact h | (rw [HWX.out] at h; exact h)⟩⟩
       ·skip
        have d4 : (ov2 != 0) = true := bne_iff_ne.2 (by have := HJ1_.out; omega); have d5 : ((j_ : Int) != ov2) = false := by rw [hov]; simp
        clear hov
        go_wp2_with (first | (go_at_call 10; refine (may_q (irow_C HRA.out) OKP.out.1).mono ?_; rintro e wm ⟨rfl, HBc⟩; have HSM := Aside0.mk (HSQ.out.below HBc); have BKm := Aside0.mk (blk_below BKa.out HBc); have HRM := Aside0.mk (irow_below HRA.out HBc); clear HBc lb ls lsf lc0 lc1 lc2 lc3 lc4 lc5 lc6 lc7 lc8 lf0 lf1 lf2 lf3 lf4 lf5 lf6 lf7 lf8 la0 la1 la2 la3 la4 la5 la6 la7 la8 lg0 lg1 lg2 lg3 lg4 lg5 lg6 lg7 lg8; have ls := row_cell HSM.out.bs (i := j_) (by rw [HLS.out]; exact HJ2_.out); rw [HHX.out] at ls; have lsf := blk_frozen HSM.out.bs j_; refine cl9_ BKm.out ?_; intro la0 la1 la2 la3 la4 la5 la6 la7 la8 lg0 lg1 lg2 lg3 lg4 lg5 lg6 lg7 lg8; refine cl9_ HSM.out.bl ?_; intro lc0 lc1 lc2 lc3 lc4 lc5 lc6 lc7 lc8 lf0 lf1 lf2 lf3 lf4 lf5 lf6 lf7 lf8; rw [HPT.out] at la0) | ((with_reducible refine gate_store (p := 226) rfl ?_); refine store_event (w1 := ?_) rfl (p := 226) rfl rfl ?hr ?_; rotate_left; (case hr => go_simp; rfl); intro wz hw_; have HSZ := Aside0.mk (HSM.out.setS hw_); have BKz := Aside0.mk (blk_row hw_ HSM.out.bs BKm.out (by decide)); have HRZ := Aside0.mk (irow_row hw_ HRM.out HSM.out.bs (by decide)); clear hw_ ls lsf lc0 lc1 lc2 lc3 lc4 lc5 lc6 lc7 lc8 lf0 lf1 lf2 lf3 lf4 lf5 lf6 lf7 lf8 la0 la1 la2 la3 la4 la5 la6 la7 la8 lg0 lg1 lg2 lg3 lg4 lg5 lg6 lg7 lg8; refine cl9_ BKz.out ?_; intro la0 la1 la2 la3 la4 la5 la6 la7 la8 lg0 lg1 lg2 lg3 lg4 lg5 lg6 lg7 lg8; refine cl9_ HSZ.out.bl ?_; intro lc0 lc1 lc2 lc3 lc4 lc5 lc6 lc7 lc8 lf0 lf1 lf2 lf3 lf4 lf5 lf6 lf7 lf8; rw [HPT.out] at la0) | ((with_reducible refine gate_store (p := 15) rfl ?_); refine store_event (w1 := ?_) rfl (p := 15) rfl rfl ?hr ?_; rotate_left; (case hr => go_simp; rfl); intro wy hw_; have hput : wy.heap[gl]? = some (.cells #[.int .i64 (j_ : Int), .int .i64 p.u, .int .i64 p.q.f0, .int .i64 p.q.f1, .int .i64 p.q.f2, .slice Aa p.q.f3.length ka, .int .i64 p.q.f4, .int .i64 p.q.f5, .int .i64 p.q.f6] 39 (0, 0)) := (by rw [hw_]; refine blk_put (cs := #[.int .i64 (j_ : Int), .int .i64 p.u, .int .i64 p.q.f0, .int .i64 p.q.f1, .int .i64 p.q.f2, .slice Aa p.q.f3.length ka, .int .i64 p.q.f4, .int .i64 p.q.f5, .int .i64 lp.q.f6]) ?_ 8 _ rfl; refine blk_put (cs := #[.int .i64 (j_ : Int), .int .i64 p.u, .int .i64 p.q.f0, .int .i64 p.q.f1, .int .i64 p.q.f2, .slice Aa p.q.f3.length ka, .int .i64 p.q.f4, .int .i64 lp.q.f5, .int .i64 lp.q.f6]) ?_ 7 _ rfl; refine blk_put (cs := #[.int .i64 (j_ : Int), .int .i64 p.u, .int .i64 p.q.f0, .int .i64 p.q.f1, .int .i64 p.q.f2, .slice Aa p.q.f3.length ka, .int .i64 lp.q.f4, .int .i64 lp.q.f5, .int .i64 lp.q.f6]) ?_ 6 _ rfl; refine blk_put (cs := #[.int .i64 (j_ : Int), .int .i64 p.u, .int .i64 p.q.f0, .int .i64 p.q.f1, .int .i64 p.q.f2, .slice Al lp.q.f3.length kl, .int .i64 lp.q.f4, .int .i64 lp.q.f5, .int .i64 lp.q.f6]) ?_ 5 _ rfl; refine blk_put (cs := #[.int .i64 (j_ : Int), .int .i64 p.u, .int .i64 p.q.f0, .int .i64 p.q.f1, .int .i64 lp.q.f2, .slice Al lp.q.f3.length kl, .int .i64 lp.q.f4, .int .i64 lp.q.f5, .int .i64 lp.q.f6]) ?_ 4 _ rfl; refine blk_put (cs := #[.int .i64 (j_ : Int), .int .i64 p.u, .int .i64 p.q.f0, .int .i64 lp.q.f1, .int .i64 lp.q.f2, .slice Al lp.q.f3.length kl, .int .i64 lp.q.f4, .int .i64 lp.q.f5, .int .i64 lp.q.f6]) ?_ 3 _ rfl; refine blk_put (cs := #[.int .i64 (j_ : Int), .int .i64 p.u, .int .i64 lp.q.f0, .int .i64 lp.q.f1, .int .i64 lp.q.f2, .slice Al lp.q.f3.length kl, .int .i64 lp.q.f4, .int .i64 lp.q.f5, .int .i64 lp.q.f6]) ?_ 2 _ rfl; refine blk_put (cs := #[.int .i64 (j_ : Int), .int .i64 lp.u, .int .i64 lp.q.f0, .int .i64 lp.q.f1, .int .i64 lp.q.f2, .slice Al lp.q.f3.length kl, .int .i64 lp.q.f4, .int .i64 lp.q.f5, .int .i64 lp.q.f6]) ?_ 1 _ rfl; refine blk_put (cs := #[.int .i64 lp.t, .int .i64 lp.u, .int .i64 lp.q.f0, .int .i64 lp.q.f1, .int .i64 lp.q.f2, .slice Al lp.q.f3.length kl, .int .i64 lp.q.f4, .int .i64 lp.q.f5, .int .i64 lp.q.f6]) ?_ 0 _ rfl; exact HSZ.out.bl); have HEc : Ext (fun k => k = gl) wz wy := (by rw [hw_]; exact ((((((((((Ext.refl _ _).setg _).setg _).setg _).setg _).setg _).setg _).setg _).setg _).setg _)); clear hw_ lc0 lc1 lc2 lc3 lc4 lc5 lc6 lc7 lc8 lf0 lf1 lf2 lf3 lf4 lf5 lf6 lf7 lf8 la0 la1 la2 la3 la4 la5 la6 la7 la8 lg0 lg1 lg2 lg3 lg4 lg5 lg6 lg7 lg8; rw [← HPT.out] at hput; have HSY := Aside0.mk (HSZ.out.setL HRZ.out HKA.out hput HEc); clear hput HEc))
        go_roundg 0
        case measure => omega
        case rel => exact .inr ⟨rfl, congrArg (Value.int .i64) HPT.out.symm, rfl, ⟨by have h := HSY.out; rw [HHX.out]; first | exact h | (rw [HWX.out] at h; exact h)⟩⟩
      go_wp2_with (fail)
      have HI1 : wrap64 ((i : Int) + 1) = ((i + 1 : Nat) : Int) := by have h1 := HLT.out; have h2 := HFW.out.1; unfold wrap64; omega
      go_roundg (os.length - (i + 1))
      case measure => (have := HLT.out; have := HGK.out; omega)
      case rel => exact ⟨i + 1, n', s', _, _, _, _, _, p.t, rfl, rfl, rfl, congrArg (Value.int .i64) (by first | exact HI1 | omega), ⟨HLT.out, HNN.out⟩, ⟨by have h := HINV2.out; unfold snOf lpOf ovOf2 at h; dsimp only at h; rw [show p.t.toNat = j_ from by have := HPT.out; omega] at h; first | exact h | (rw [Int.toNat_natCast] at h; exact h)⟩, ⟨HSX.out⟩⟩
end Go.Proofs.Ytlalpooiegganaa.HandOnce
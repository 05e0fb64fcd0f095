/- The words, contracts and walks that this claim leans on, put together by a program of this session (part 5). -/
import Derived.Test.YtlalpooiegganaaZO4
section
namespace Go.Proofs.Ytlalpooiegganaa.PG
open Go.RowKit Go.Proofs.YtlalpooiegganaaW.PrintWords Go.Proofs.YtlalpooiegganaaW.PrintLast Go.Proofs.YtlalpooiegganaaW.PrintMore
attribute [local go_sem] max2_int min2_int max_two min_two max_three min_three max_four min_four   
set_option linter.unusedVariables false
set_option linter.unusedSimpArgs false
open Go.Proofs.Ytlalpooiegganaa.Ext Go.Proofs.Ytlalpooiegganaa.PP Go.Proofs.Ytlalpooiegganaa.ExtF Go.Proofs.Ytlalpooiegganaa.ExtM
mutual
def basculeref03_AnswerBytes.j0 : Nat → List Int → Int → Bool → Int → Int → Int → List Int → Int → Int → Int → List Int → Int → Option (List Int)
 | 0, _, _, _, _, _, _, _, _, _, _, _, _ => none
 | k + 1, x5, x22, x23, x400000, x400001, x400002, x400003, x400004, x400005, x400006, x401000, x401001 => if x23 = true then ((basculeref01_Pack.f k x401000).bind fun t407 => ((basculeref03_counted.f t407).bind fun t410 => (if x5.length + t410.length < 140737488355328 then (some (x5 ++ t410)) else (none)))) else (if x22 = 3 then (basculeref03_AnswerBytes.j1 k x5 x22 (x22 == 3) x400000 x400001 x400002 x400003 x400004 x400005 x400006 x401000 x401001) else (if x22 = 4 then (basculeref03_AnswerBytes.j1 k x5 x22 (x22 == 4) x400000 x400001 x400002 x400003 x400004 x400005 x400006 x401000 x401001) else (basculeref03_AnswerBytes.j1 k x5 x22 (x22 == 23) x400000 x400001 x400002 x400003 x400004 x400005 x400006 x401000 x401001)))
def basculeref03_AnswerBytes.j1 : Nat → List Int → Int → Bool → Int → Int → Int → List Int → Int → Int → Int → List Int → Int → Option (List Int)
 | 0, _, _, _, _, _, _, _, _, _, _, _, _ => none
 | k + 1, x5, x22, x33, x400000, x400001, x400002, x400003, x400004, x400005, x400006, x401000, x401001 => if x33 = true then ((basculeref03_lay.f k x401000).bind fun t416 => ((basculeref03_counted.f t416).bind fun t419 => (if x5.length + t419.length < 140737488355328 then (some (x5 ++ t419)) else (none)))) else (if x22 = 15 then (basculeref03_AnswerBytes.j2 k x5 (x22 == 15) x400000 x400001 x400002 x400003 x400004 x400005 x400006) else (basculeref03_AnswerBytes.j2 k x5 (x22 == 16) x400000 x400001 x400002 x400003 x400004 x400005 x400006))
def basculeref03_AnswerBytes.j2 : Nat → List Int → Bool → Int → Int → Int → List Int → Int → Int → Int → Option (List Int)
 | 0, _, _, _, _, _, _, _, _, _ => none
 | k + 1, x5, x44, x400000, x400001, x400002, x400003, x400004, x400005, x400006 => if x44 = true then ((basculeref03_lay.f k (([x400001, x400002] : List Int))).bind fun t428 => (if x5.length + t428.length < 140737488355328 then (some (x5 ++ t428)) else (none))) else ((basculeref03_Bytes.f k x400000 x400001 x400002 x400003 x400004 x400005 x400006).bind fun t434 => (some t434))
end
def basculeref03_AnswerBytes.f (k : Nat) (a0_0 : Int) (a0_1 : Int) (a0_2 : Int) (l0_3 : List Int) (a0_4 : Int) (a0_5 : Int) (a0_6 : Int) (l1_0 : List Int) (a1_1 : Int) : Option (List Int) := if a1_1 = 0 then ((some (([(a0_0) % 256] : List Int) : List Int)).bind fun y404 => (if a0_0 = 1 then (basculeref03_AnswerBytes.j0 k y404 a0_0 (a0_0 == 1) a0_0 a0_1 a0_2 l0_3 a0_4 a0_5 a0_6 l1_0 a1_1) else (basculeref03_AnswerBytes.j0 k y404 a0_0 (a0_0 == 2) a0_0 a0_1 a0_2 l0_3 a0_4 a0_5 a0_6 l1_0 a1_1))) else (some (([(wrap64 (a0_0 + 128)) % 256, (a1_1) % 256] : List Int)))
theorem basculeref03_AnswerBytes.mono_l : ∀ k, (∀ y0 y1 y2 y3 y4 y5 y6 y7 y8 y9 y10 y11, LeO (basculeref03_AnswerBytes.j0 k y0 y1 y2 y3 y4 y5 y6 y7 y8 y9 y10 y11) (basculeref03_AnswerBytes.j0 (k + 1) y0 y1 y2 y3 y4 y5 y6 y7 y8 y9 y10 y11)) ∧ (∀ y0 y1 y2 y3 y4 y5 y6 y7 y8 y9 y10 y11, LeO (basculeref03_AnswerBytes.j1 k y0 y1 y2 y3 y4 y5 y6 y7 y8 y9 y10 y11) (basculeref03_AnswerBytes.j1 (k + 1) y0 y1 y2 y3 y4 y5 y6 y7 y8 y9 y10 y11)) ∧ (∀ y0 y1 y2 y3 y4 y5 y6 y7 y8, LeO (basculeref03_AnswerBytes.j2 k y0 y1 y2 y3 y4 y5 y6 y7 y8) (basculeref03_AnswerBytes.j2 (k + 1) y0 y1 y2 y3 y4 y5 y6 y7 y8))
 | 0 => ⟨fun _ _ _ _ _ _ _ _ _ _ _ _ r h => by simp [basculeref03_AnswerBytes.j0] at h, fun _ _ _ _ _ _ _ _ _ _ _ _ r h => by simp [basculeref03_AnswerBytes.j1] at h, fun _ _ _ _ _ _ _ _ _ r h => by simp [basculeref03_AnswerBytes.j2] at h⟩
 | k + 1 => by
  obtain ⟨ih0, ih1, ih2⟩ := basculeref03_AnswerBytes.mono_l k
  refine ⟨?_, ?_, ?_⟩
  ·intro y0 y1 y2 y3 y4 y5 y6 y7 y8 y9 y10 y11
   unfold basculeref03_AnswerBytes.j0
   repeat' first
   | (with_reducible exact ih0 _ _ _ _ _ _ _ _ _ _ _ _)
   | (with_reducible exact ih1 _ _ _ _ _ _ _ _ _ _ _ _)
   | (with_reducible exact ih2 _ _ _ _ _ _ _ _ _)
   | (with_reducible exact basculeref01_Pack.mono _ _)
   | (with_reducible exact basculeref03_Bytes.mono _ _ _ _ _ _ _ _)
   | (with_reducible exact basculeref03_lay.mono _ _)
   | (with_reducible exact LeO.refl _)
   | (with_reducible exact LeO.none _)
   | (with_reducible refine LeO.ite ?_ ?_)
   | (with_reducible refine LeO.bind ?_ (fun _ => ?_))
   | exact ih0 _ _ _ _ _ _ _ _ _ _ _ _
   | exact ih1 _ _ _ _ _ _ _ _ _ _ _ _
   | exact ih2 _ _ _ _ _ _ _ _ _
   | exact basculeref01_Pack.mono _ _
   | exact basculeref03_Bytes.mono _ _ _ _ _ _ _ _
   | exact basculeref03_lay.mono _ _
   | exact LeO.none _
   | refine LeO.ite ?_ ?_
   | refine LeO.bind ?_ (fun _ => ?_)
  ·intro y0 y1 y2 y3 y4 y5 y6 y7 y8 y9 y10 y11
   unfold basculeref03_AnswerBytes.j1
   repeat' first
   | (with_reducible exact ih0 _ _ _ _ _ _ _ _ _ _ _ _)
   | (with_reducible exact ih1 _ _ _ _ _ _ _ _ _ _ _ _)
   | (with_reducible exact ih2 _ _ _ _ _ _ _ _ _)
   | (with_reducible exact basculeref01_Pack.mono _ _)
   | (with_reducible exact basculeref03_Bytes.mono _ _ _ _ _ _ _ _)
   | (with_reducible exact basculeref03_lay.mono _ _)
   | (with_reducible exact LeO.refl _)
   | (with_reducible exact LeO.none _)
   | (with_reducible refine LeO.ite ?_ ?_)
   | (with_reducible refine LeO.bind ?_ (fun _ => ?_))
   | exact ih0 _ _ _ _ _ _ _ _ _ _ _ _
   | exact ih1 _ _ _ _ _ _ _ _ _ _ _ _
   | exact ih2 _ _ _ _ _ _ _ _ _
   | exact basculeref01_Pack.mono _ _
   | exact basculeref03_Bytes.mono _ _ _ _ _ _ _ _
   | exact basculeref03_lay.mono _ _
   | exact LeO.none _
   | refine LeO.ite ?_ ?_
   | refine LeO.bind ?_ (fun _ => ?_)
  ·intro y0 y1 y2 y3 y4 y5 y6 y7 y8
   unfold basculeref03_AnswerBytes.j2
   repeat' first
   | (with_reducible exact ih0 _ _ _ _ _ _ _ _ _ _ _ _)
   | (with_reducible exact ih1 _ _ _ _ _ _ _ _ _ _ _ _)
   | (with_reducible exact ih2 _ _ _ _ _ _ _ _ _)
   | (with_reducible exact basculeref01_Pack.mono _ _)
   | (with_reducible exact basculeref03_Bytes.mono _ _ _ _ _ _ _ _)
   | (with_reducible exact basculeref03_lay.mono _ _)
   | (with_reducible exact LeO.refl _)
   | (with_reducible exact LeO.none _)
   | (with_reducible refine LeO.ite ?_ ?_)
   | (with_reducible refine LeO.bind ?_ (fun _ => ?_))
   | exact ih0 _ _ _ _ _ _ _ _ _ _ _ _
   | exact ih1 _ _ _ _ _ _ _ _ _ _ _ _
   | exact ih2 _ _ _ _ _ _ _ _ _
   | exact basculeref01_Pack.mono _ _
   | exact basculeref03_Bytes.mono _ _ _ _ _ _ _ _
   | exact basculeref03_lay.mono _ _
   | exact LeO.none _
   | refine LeO.ite ?_ ?_
   | refine LeO.bind ?_ (fun _ => ?_)
theorem basculeref03_AnswerBytes.mono : ∀ a0 a1 a2 a3 a4 a5 a6 a7 a8 k, LeO (basculeref03_AnswerBytes.f k a0 a1 a2 a3 a4 a5 a6 a7 a8) (basculeref03_AnswerBytes.f (k + 1) a0 a1 a2 a3 a4 a5 a6 a7 a8) := by
 intro a0 a1 a2 a3 a4 a5 a6 a7 a8 k
 obtain ⟨ih0, ih1, ih2⟩ := basculeref03_AnswerBytes.mono_l k
 unfold basculeref03_AnswerBytes.f
 repeat' first
  | (with_reducible exact ih0 _ _ _ _ _ _ _ _ _ _ _ _)
  | (with_reducible exact ih1 _ _ _ _ _ _ _ _ _ _ _ _)
  | (with_reducible exact ih2 _ _ _ _ _ _ _ _ _)
  | (with_reducible exact basculeref01_Pack.mono _ _)
  | (with_reducible exact basculeref03_Bytes.mono _ _ _ _ _ _ _ _)
  | (with_reducible exact basculeref03_lay.mono _ _)
  | (with_reducible exact LeO.refl _)
  | (with_reducible exact LeO.none _)
  | (with_reducible refine LeO.ite ?_ ?_)
  | (with_reducible refine LeO.bind ?_ (fun _ => ?_))
  | exact ih0 _ _ _ _ _ _ _ _ _ _ _ _
  | exact ih1 _ _ _ _ _ _ _ _ _ _ _ _
  | exact ih2 _ _ _ _ _ _ _ _ _
  | exact basculeref01_Pack.mono _ _
  | exact basculeref03_Bytes.mono _ _ _ _ _ _ _ _
  | exact basculeref03_lay.mono _ _
  | exact LeO.none _
  | refine LeO.ite ?_ ?_
  | refine LeO.bind ?_ (fun _ => ?_)
set_option maxHeartbeats 8000000 in
set_option maxRecDepth 100000 in
theorem basculeref03_AnswerBytes.calls (k : Nat) (a0_0 : Int) (a0_1 : Int) (a0_2 : Int) (A0_3 : Option Addr) (c0_3 : Nat) (l0_3 : List Int) (a0_4 : Int) (a0_5 : Int) (a0_6 : Int) (A1_0 : Option Addr) (c1_0 : Nat) (l1_0 : List Int) (a1_1 : Int) (r : List Int) (w : World) (hr0_3 : Kd.C (Kd.int .i64) w A0_3 l0_3.length l0_3) (hc0_3 : l0_3.length ≤ c0_3) (hr1_0 : Kd.C (Kd.int .i64) w A1_0 l1_0.length l1_0) (hc1_0 : l1_0.length ≤ c1_0) (h : basculeref03_AnswerBytes.f k a0_0 a0_1 a0_2 l0_3 a0_4 a0_5 a0_6 l1_0 a1_1 = some r) :
 Calls Try.prog 37 #[.agg #[.int .i64 a0_0, .int .i64 a0_1, .int .i64 a0_2, .slice A0_3 l0_3.length c0_3, .int .i64 a0_4, .int .i64 a0_5, .int .i64 a0_6], .agg #[.slice A1_0 l1_0.length c1_0, .int .i64 a1_1]] w fun e w' => ∃ v0_ : Value, e = .returned (v0_) ∧ Kd.R (Kd.int .u8) 5 w' w.heap.size (fun _ => True) v0_ r ∧ Below w.heap.size w w' := by
 have hu31 := Try.underlying31
 have hu46 := Try.underlying46
 have HR0_3 := Aside0.mk hr0_3
 have HC0_3 := Aside0.mk hc0_3
 clear hr0_3 hc0_3
 have HR1_0 := Aside0.mk hr1_0
 have HC1_0 := Aside0.mk hc1_0
 clear hr1_0 hc1_0
 have HB := Aside0.mk (Below.refl w.heap.size w)
 have H : (if a1_1 = 0 then ((some (([(a0_0) % 256] : List Int) : List Int)).bind fun y404 => (if a0_0 = 1 then (basculeref03_AnswerBytes.j0 k y404 a0_0 (a0_0 == 1) a0_0 a0_1 a0_2 l0_3 a0_4 a0_5 a0_6 l1_0 a1_1) else (basculeref03_AnswerBytes.j0 k y404 a0_0 (a0_0 == 2) a0_0 a0_1 a0_2 l0_3 a0_4 a0_5 a0_6 l1_0 a1_1))) else (some (([(wrap64 (a0_0 + 128)) % 256, (a1_1) % 256] : List Int)))) = some r := h
 clear h
 by_cases c3 : a1_1 = 0
 ·rw [if_pos c3] at H
  have c3b0 : (a1_1 == 0) = true := beq_iff_eq.mpr c3
  have c3b1 : (a1_1 != 0) = false := bne_eq_false_iff_eq.mpr c3
  clear c3
  obtain ⟨y404, hy404⟩ : ∃ y_ : List Int, y_ = (([(a0_0) % 256] : List Int)) := ⟨_, rfl⟩
  replace H : (if a0_0 = 1 then (basculeref03_AnswerBytes.j0 k y404 a0_0 (a0_0 == 1) a0_0 a0_1 a0_2 l0_3 a0_4 a0_5 a0_6 l1_0 a1_1) else (basculeref03_AnswerBytes.j0 k y404 a0_0 (a0_0 == 2) a0_0 a0_1 a0_2 l0_3 a0_4 a0_5 a0_6 l1_0 a1_1)) = some r := by first | (rw [hy404]; with_reducible exact H) | (have H2_ := (Option.bind_some _ _).symm.trans H; rw [hy404]; with_reducible exact H2_) | (have H2_ := (Option.bind_some _ _).symm.trans H; with_reducible exact H2_) | with_reducible exact H | (rw [hy404]; exact H) | exact H
  have Ny404 := Aside0.mk hy404
  clear hy404
  have HC4 := Aside0.mk H
  clear H
  go_enter Try.func37, Try.ntmps37
  go_upto_if 23 with (first | ((with_reducible refine gate_dst (N := 2) rfl ?_); refine bx_ (N := 2) (cs := #[.int .i64 a0_0, .int .i64 a0_1, .int .i64 a0_2, .slice A0_3 l0_3.length c0_3, .int .i64 a0_4, .int .i64 a0_5, .int .i64 a0_6]) (t := 31) ?_; intro gb399 hg w5 hbox hb; have n0_ := Aside0.mk (below_step (bl0_ HB) hb); have n1_ := Aside0.mk (hbox); have n2_ := Aside0.mk ((by rw [hg]; exact (below_size (bl0_ HB)) : w.heap.size ≤ gb399)); have n3_ := Aside0.mk ((by rw [hg]; exact (below_size (bl0_ HB)) : w.heap.size ≤ gb399)); clear HB; have HB := n0_; have BK399 := n1_; have GW399 := n2_; have GE399 := n3_; clear n0_ n1_ n2_ n3_; clear hb hbox hg) | ((with_reducible refine gate_dst (N := 3) rfl ?_); refine bx_ (N := 3) (cs := #[.slice A1_0 l1_0.length c1_0, .int .i64 a1_1]) (t := 46) ?_; intro gb400 hg w6 hbox hb; have n0_ := Aside0.mk (blk_below (g := gb399) (bk_ BK399) hb); have n1_ := Aside0.mk (below_step (bl1_ HB GE399) hb); have n2_ := Aside0.mk (hbox); have n3_ := Aside0.mk ((by rw [hg]; exact (below_size (bl1_ HB GE399)) : w.heap.size ≤ gb400)); have n4_ := Aside0.mk ((by rw [hg]; exact (below_size (bl1_ HB GE399)) : w.heap.size ≤ gb400)); have n5_ := Aside0.mk ((by rw [hg]; exact Nat.ne_of_lt (blk_lt (g := gb399) (bk_ BK399)) : gb399 ≠ gb400)); have n6_ := Aside0.mk ((by rw [hg]; exact Nat.ne_of_gt (blk_lt (g := gb399) (bk_ BK399)) : gb400 ≠ gb399)); clear BK399; clear HB; have BK399 := n0_; have HB := n1_; have BK400 := n2_; have GW400 := n3_; have GE400 := n4_; have NB399_400 := n5_; have NB400_399 := n6_; clear n0_ n1_ n2_ n3_ n4_ n5_ n6_; clear hb hbox hg; have hnb7 := NB400_399.out; have hnc7 := NB399_400.out; refine cz2_ BK400.out ?_; intro hcz8_0 hcz8_1 hfz8_0 hfz8_1; refine cz7_ BK399.out ?_; intro hcz9_0 hcz9_1 hcz9_2 hcz9_3 hcz9_4 hcz9_5 hcz9_6 hfz9_0 hfz9_1 hfz9_2 hfz9_3 hfz9_4 hfz9_5 hfz9_6) | ((with_reducible refine gate_dst (N := 20) rfl ?_); refine Kd.R_lit (Kd.int .u8) _ 5 ?hg (N := 20) ?hd (xs := ([(a0_0) % 256] : List Int)) (inner := [.int .u8 ((a0_0) % 256)]) (ok := fun _ => True) (okp := fun _ => True) ?hr ?hp (fun _ hk => hk) trivial (Below.refl _ _) (Nat.le_refl _) (by simp) ?_; (case hd => rfl); (case hg => rfl); (case hr => first | (go_simp; done) | (go_simp; rfl)); (case hp => exact (Reps.one (show Kd.M (Kd.int .u8) _ _ _ ((a0_0) % 256) [.int .u8 ((a0_0) % 256)] from rfl) (Reps.none _ _))); intro v405 w10 ho11 hb hg_ hnew_; clear hg_ hnew_; (first | rw [← Ny404.out] at ho11 | (simp only [Int.reduceToNat] at ho11; rw [← Ny404.out] at ho11)); have n0_ := Aside0.mk (Kd.R_lower ho11 (below_size (bl2_ HB GE399 GE400))); have n1_ := Aside0.mk (blk_below (g := gb399) (bk_ BK399) hb); have n2_ := Aside0.mk (blk_below (g := gb400) (bk_ BK400) hb); have n3_ := Aside0.mk (below_step (bl2_ HB GE399 GE400) hb); clear BK399; clear BK400; clear HB; have HO406 := n0_; have BK399 := n1_; have BK400 := n2_; have HB := n3_; clear n0_ n1_ n2_ n3_; clear hb ho11; refine cz7_ BK399.out ?_; intro hcz12_0 hcz12_1 hcz12_2 hcz12_3 hcz12_4 hcz12_5 hcz12_6 hfz12_0 hfz12_1 hfz12_2 hfz12_3 hfz12_4 hfz12_5 hfz12_6))
  (try simp only [Act.put, List.setIfInBounds_toArray, List.set_cons_zero, List.set_cons_succ])
  go_cut [23] (fun v23 wc => ∃ (kq : Nat) (x23_3 : Bool), v23 = .bool x23_3 ∧ Aside0 (basculeref03_AnswerBytes.j0 kq y404 a0_0 x23_3 a0_0 a0_1 a0_2 l0_3 a0_4 a0_5 a0_6 l1_0 a1_1 = some r) ∧ Aside0 (kq ≤ k) ∧ Aside0 (Kd.R (Kd.int .u8) 5 wc w.heap.size (fun _ => True) v405 y404) ∧ Aside0 (wc.heap[gb399]? = some (.cells #[.int .i64 a0_0, .int .i64 a0_1, .int .i64 a0_2, (.slice A0_3 l0_3.length c0_3), .int .i64 a0_4, .int .i64 a0_5, .int .i64 a0_6] 31 (0, 0))) ∧ Aside0 (wc.heap[gb400]? = some (.cells #[(.slice A1_0 l1_0.length c1_0), .int .i64 a1_1] 46 (0, 0))) ∧ Aside0 (Below w.heap.size w wc))
  case first =>
   have H := HC4.out
   clear HC4
   by_cases c13 : a0_0 = 1
   ·rw [if_pos c13] at H
    have c13b0 : (a0_0 == 1) = true := beq_iff_eq.mpr c13
    have c13b1 : (a0_0 != 1) = false := bne_eq_false_iff_eq.mpr c13
    clear c13
    (first | rw [c13b0] | (simp only [i64_w, i32_w]; rw [c13b0]) | skip)
    have H' := Aside0.mk H
    clear H
    go_wp2
    go_meet
    case rel => exact ⟨_, ((a0_0 == 1)), (by first | rfl | (simp; done) | (simp [*]; done)), H', ⟨by first | omega | exact Nat.le_refl _⟩, ⟨kr_ HO406⟩, ⟨bk_ BK399⟩, ⟨bk_ BK400⟩, ⟨bl2_ HB GE399 GE400⟩⟩
   ·rw [if_neg c13] at H
    have c13b0 : (a0_0 == 1) = false := beq_eq_false_iff_ne.mpr c13
    have c13b1 : (a0_0 != 1) = true := bne_iff_ne.mpr c13
    (first | rw [c13b0] | (simp only [i64_w, i32_w]; rw [c13b0]) | skip)
    have H' := Aside0.mk H
    clear H
    go_wp2
    go_meet
    case rel => exact ⟨_, ((a0_0 == 2)), (by first | rfl | (simp; done) | (simp [*]; done)), H', ⟨by first | omega | exact Nat.le_refl _⟩, ⟨kr_ HO406⟩, ⟨bk_ BK399⟩, ⟨bk_ BK400⟩, ⟨bl2_ HB GE399 GE400⟩⟩
  case rest =>
   clear HC4
   try clear c1
   try clear p2
   try clear c3
   try clear c3b0
   try clear c3b1
   try clear p6
   try clear c7
   try clear c13
   try clear c13b0
   try clear c13b1
   try clear hcz12_0 hcz12_1 hcz12_2 hcz12_3 hcz12_4 hcz12_5 hcz12_6
   try clear hcz8_0 hcz8_1
   try clear hcz9_0 hcz9_1 hcz9_2 hcz9_3 hcz9_4 hcz9_5 hcz9_6
   try clear hfz12_0 hfz12_1 hfz12_2 hfz12_3 hfz12_4 hfz12_5 hfz12_6
   try clear hfz8_0 hfz8_1
   try clear hfz9_0 hfz9_1 hfz9_2 hfz9_3 hfz9_4 hfz9_5 hfz9_6
   obtain ⟨kq, x23_3, rfl, HA, HJ3, HO_5, BK399, BK400, HB⟩ := hcut
   cases kq with
   | zero => exact absurd HA.out (by simp [basculeref03_AnswerBytes.j0])
   | succ kj3 =>
    have H := HA.out
    clear HA
    simp only [basculeref03_AnswerBytes.j0] at H
    by_cases c14 : x23_3 = true
    ·subst c14
     have H1 : ((basculeref01_Pack.f kj3 l1_0).bind fun t407 => ((basculeref03_counted.f t407).bind fun t410 => (if y404.length + t410.length < 140737488355328 then (some (y404 ++ t410)) else (none)))) = some r := by rw [if_pos rfl] at H; exact H
     clear H
     have H := H1
     clear H1
     replace H := Option.bind_eq_some_iff.mp H
     obtain ⟨t407, A150, H⟩ := H
     replace H : ((basculeref03_counted.f t407).bind fun t410 => (if y404.length + t410.length < 140737488355328 then (some (y404 ++ t410)) else (none))) = some r := H
     have A15 := Aside0.mk A150
     clear A150
     replace H := Option.bind_eq_some_iff.mp H
     obtain ⟨t410, A160, H⟩ := H
     replace H : (if y404.length + t410.length < 140737488355328 then (some (y404 ++ t410)) else (none)) = some r := H
     have A16 := Aside0.mk A160
     clear A160
     by_cases c17 : y404.length + t410.length < 140737488355328
     ·rw [if_pos c17] at H
      have LMc17 := Aside0.mk c17
      clear c17
      obtain ⟨y413, hy413⟩ : ∃ y_ : List Int, y_ = (y404 ++ t410) := ⟨_, rfl⟩
      replace H : (some y413) = some r := by first | (rw [hy413]; with_reducible exact H) | (have H2_ := (Option.bind_some _ _).symm.trans H; rw [hy413]; with_reducible exact H2_) | (have H2_ := (Option.bind_some _ _).symm.trans H; with_reducible exact H2_) | with_reducible exact H | (rw [hy413]; exact H) | exact H
      have Ny413 := Aside0.mk hy413
      clear hy413
      obtain rfl := Option.some.inj H
      have hnb18 := NB400_399.out
      have hnc18 := NB399_400.out
      refine cz2_ BK400.out ?_; intro hcz19_0 hcz19_1 hfz19_0 hfz19_1
      go_wp2_with (first | ((with_reducible refine gate_callee (f := 53) rfl ?_); refine goesL_ (some 29) rfl rfl Try.func53 (by kernel_rfl) rfl #[.slice A1_0 l1_0.length c1_0] rfl ar_ ?_; (with_reducible refine (basculeref01_Pack.calls kj3 _ _ l1_0 t407 _ ?side1 ?side2 A15.out).mono ?_); (case side1 => exact sc_ (Kd.C_below HR1_0.out HB.out)); (case side2 => exact HC1_0.out); rintro e w20 ⟨v408, rfl, ho0, hb⟩; refine ⟨_, rfl, ?_⟩; have n0_ := Aside0.mk (Kd.R_elder' (kr_ HO_5) (Kd.R_base ho0) hb); have n1_ := Aside0.mk (Kd.R_lower (Kd.R_new' ho0 (Kd.R_lt (kr_ HO_5))) (below_size (bl2_ HB GE399 GE400))); have n2_ := Aside0.mk (blk_below (g := gb399) (bk_ BK399) hb); have n3_ := Aside0.mk (blk_below (g := gb400) (bk_ BK400) hb); have n4_ := Aside0.mk (below_step (bl2_ HB GE399 GE400) hb); clear HO_5; clear BK399; clear BK400; clear HB; have HO_5 := n0_; have HO409 := n1_; have BK399 := n2_; have BK400 := n3_; have HB := n4_; clear n0_ n1_ n2_ n3_ n4_; (try clear hb); (try clear hb2); (try clear hk); (try clear hi); (try clear ho0); obtain ⟨Ao21, co21, eo21⟩ := Kd.R_slice HO409.out; subst eo21) | ((with_reducible refine gate_callee (f := 52) rfl ?_); refine goesL_ (some 30) rfl rfl Try.func52 (by kernel_rfl) rfl #[.slice Ao21 t407.length co21] rfl ar_ ?_; (with_reducible refine (basculeref03_counted.calls _ _ t407 t410 _ ?side1 ?side2 A16.out).mono ?_); (case side1 => exact sc_ (Kd.R_reads' HO409.out).2.2); (case side2 => exact (Kd.R_reads' HO409.out).2.1); rintro e w22 ⟨v411, rfl, ho0, hb⟩; refine ⟨_, rfl, ?_⟩; have n0_ := Aside0.mk (Kd.R_elder' (kr_ HO_5) (Kd.R_base ho0) hb); have n1_ := Aside0.mk (Kd.R_elder' (kr_ HO409) (Kd.R_base ho0) hb); have n2_ := Aside0.mk (Kd.R_lower (Kd.R_new' (Kd.R_new' ho0 (Kd.R_lt (kr_ HO_5))) (Kd.R_lt (kr_ HO409))) (below_size (bl2_ HB GE399 GE400))); have n3_ := Aside0.mk (blk_below (g := gb399) (bk_ BK399) hb); have n4_ := Aside0.mk (blk_below (g := gb400) (bk_ BK400) hb); have n5_ := Aside0.mk (below_step (bl2_ HB GE399 GE400) hb); clear HO_5; clear HO409; clear BK399; clear BK400; clear HB; have HO_5 := n0_; have HO409 := n1_; have HO412 := n2_; have BK399 := n3_; have BK400 := n4_; have HB := n5_; clear n0_ n1_ n2_ n3_ n4_ n5_; (try clear hb); (try clear hb2); (try clear hk); (try clear hi); (try clear ho0); obtain ⟨Ao24, co24, eo24⟩ := Kd.R_slice HO412.out; subst eo24) | ((with_reducible refine gate_builtin (b := .append) (xs := #[.tmp 26, .tmp 30]) rfl ?_); at_builtin; refine Kd.R_append_rows (Kd.int .u8) (w0 := w) w.heap.size rfl (.tmp 26) (.tmp 30) 43 5 (.int .u8 0) 1 rfl Try.underlying43 info5 rfl (by decide) (by omega) v405 y404 t410 _ _ _ (fun k_ => some k_ ≠ (.slice Ao21 t407.length co21 : Value).ownBlock ∧ some k_ ≠ (.slice Ao24 t410.length co24 : Value).ownBlock) (fun _ => False) rfl rfl ?aO ?aR (fun _ _ h => h) (fun _ h => h.elim) ?aF ?aB ?aS ?aL ?_; (case aR => exact sc_ (Kd.R_reads' HO412.out).2.2); (case aB => exact (bl2_ HB GE399 GE400)); (case aF => exact (fun k_ hk => ⟨Kd.fresh' (Kd.R_lt (kr_ HO409)) k_ hk, Kd.fresh' (Kd.R_lt (kr_ HO412)) k_ hk⟩)); (case aO => exact (by (with_reducible repeat (first | apply Kd.R_alloc | apply Kd.R_drewN | apply Kd.R_drew)); exact Kd.R_mono HO_5.out (fun _ hk => ⟨hk.1.2, hk.2⟩))); (case aS => exact (below_size (bl2_ HB GE399 GE400))); (case aL => have := LMc17.out; omega); intro v414 w23 ho hb hg hat; rw [← Ny413.out] at ho; have n0_ := Aside0.mk (blk_grown (g := gb399) (bk_ BK399) hg (Kd.R_ne HO_5.out BK399.out (by decide))); have n1_ := Aside0.mk (blk_grown (g := gb400) (bk_ BK400) hg (Kd.R_ne HO_5.out BK400.out (by decide))); have n2_ := Aside0.mk (Kd.R_after (ok := (fun k_ => some k_ ≠ (.slice Ao24 t410.length co24 : Value).ownBlock)) (by (with_reducible repeat (first | apply Kd.R_alloc | apply Kd.R_drewN | apply Kd.R_drew)); exact Kd.R_mono HO409.out (fun _ hk => ⟨hk.2, hk.1.2⟩)) hg hat); have n3_ := Aside0.mk (Kd.R_after (ok := (fun k_ => some k_ ≠ (.slice Ao21 t407.length co21 : Value).ownBlock)) (by (with_reducible repeat (first | apply Kd.R_alloc | apply Kd.R_drewN | apply Kd.R_drew)); exact Kd.R_mono HO412.out (fun _ hk => ⟨hk.2, hk.1.2⟩)) hg hat); have n4_ := Aside0.mk (hb); have n5_ := Aside0.mk (ho); clear BK399; clear BK400; clear HO409; clear HO412; clear HB; clear HO_5; have BK399 := n0_; have BK400 := n1_; have HO409 := n2_; have HO412 := n3_; have HB := n4_; have HO415 := n5_; clear n0_ n1_ n2_ n3_ n4_ n5_; clear ho hb hg hat))
      go_ret
      exact ⟨_, er_, by (with_reducible repeat (first | apply Kd.R_alloc | apply Kd.R_drewN | apply Kd.R_drew)); exact Kd.R_mono HO415.out (fun _ hk => trivial), bl2_ HB GE399 GE400⟩
     ·rw [if_neg c17] at H
      exact absurd H (by simp)
    ·replace c14 := Bool.eq_false_iff.mpr c14
     subst c14
     have H1 : (if a0_0 = 3 then (basculeref03_AnswerBytes.j1 kj3 y404 a0_0 (a0_0 == 3) a0_0 a0_1 a0_2 l0_3 a0_4 a0_5 a0_6 l1_0 a1_1) else (if a0_0 = 4 then (basculeref03_AnswerBytes.j1 kj3 y404 a0_0 (a0_0 == 4) a0_0 a0_1 a0_2 l0_3 a0_4 a0_5 a0_6 l1_0 a1_1) else (basculeref03_AnswerBytes.j1 kj3 y404 a0_0 (a0_0 == 23) a0_0 a0_1 a0_2 l0_3 a0_4 a0_5 a0_6 l1_0 a1_1))) = some r := by rw [if_neg (show ¬ (false = true) by decide)] at H; exact H
     clear H
     have H := H1
     clear H1
     have HC25 := Aside0.mk H
     clear H
     go_upto_if 33 with (fail)
     go_cut [33] (fun v33 wc => ∃ (kq : Nat) (x33_24 : Bool), v33 = .bool x33_24 ∧ Aside0 (basculeref03_AnswerBytes.j1 kq y404 a0_0 x33_24 a0_0 a0_1 a0_2 l0_3 a0_4 a0_5 a0_6 l1_0 a1_1 = some r) ∧ Aside0 (kq ≤ kj3) ∧ Aside0 (Kd.R (Kd.int .u8) 5 wc w.heap.size (fun _ => True) v405 y404) ∧ Aside0 (wc.heap[gb399]? = some (.cells #[.int .i64 a0_0, .int .i64 a0_1, .int .i64 a0_2, (.slice A0_3 l0_3.length c0_3), .int .i64 a0_4, .int .i64 a0_5, .int .i64 a0_6] 31 (0, 0))) ∧ Aside0 (wc.heap[gb400]? = some (.cells #[(.slice A1_0 l1_0.length c1_0), .int .i64 a1_1] 46 (0, 0))) ∧ Aside0 (Below w.heap.size w wc))
     case first =>
      have H := HC25.out
      clear HC25
      by_cases c26 : a0_0 = 3
      ·rw [if_pos c26] at H
       have c26b0 : (a0_0 == 3) = true := beq_iff_eq.mpr c26
       have c26b1 : (a0_0 != 3) = false := bne_eq_false_iff_eq.mpr c26
       clear c26
       (first | rw [c26b0] | (simp only [i64_w, i32_w]; rw [c26b0]) | skip)
       have H' := Aside0.mk H
       clear H
       go_wp2
       go_meet
       case rel => exact ⟨_, ((a0_0 == 3)), (by first | rfl | (simp; done) | (simp [*]; done)), H', ⟨by have := HJ3.out; first | omega | exact Nat.le_refl _⟩, ⟨kr_ HO_5⟩, ⟨bk_ BK399⟩, ⟨bk_ BK400⟩, ⟨bl2_ HB GE399 GE400⟩⟩
      ·rw [if_neg c26] at H
       have c26b0 : (a0_0 == 3) = false := beq_eq_false_iff_ne.mpr c26
       have c26b1 : (a0_0 != 3) = true := bne_iff_ne.mpr c26
       (first | rw [c26b0] | (simp only [i64_w, i32_w]; rw [c26b0]) | skip)
       by_cases c27 : a0_0 = 4
       ·rw [if_pos c27] at H
        have c27b0 : (a0_0 == 4) = true := beq_iff_eq.mpr c27
        have c27b1 : (a0_0 != 4) = false := bne_eq_false_iff_eq.mpr c27
        clear c27
        have H' := Aside0.mk H
        clear H
        go_wp2
        go_meet
        case rel => exact ⟨_, ((a0_0 == 4)), (by first | rfl | (simp; done) | (simp [*]; done)), H', ⟨by have := HJ3.out; first | omega | exact Nat.le_refl _⟩, ⟨kr_ HO_5⟩, ⟨bk_ BK399⟩, ⟨bk_ BK400⟩, ⟨bl2_ HB GE399 GE400⟩⟩
       ·rw [if_neg c27] at H
        have c27b0 : (a0_0 == 4) = false := beq_eq_false_iff_ne.mpr c27
        have c27b1 : (a0_0 != 4) = true := bne_iff_ne.mpr c27
        have H' := Aside0.mk H
        clear H
        go_wp2
        go_meet
        case rel => exact ⟨_, ((a0_0 == 23)), (by first | rfl | (simp; done) | (simp [*]; done)), H', ⟨by have := HJ3.out; first | omega | exact Nat.le_refl _⟩, ⟨kr_ HO_5⟩, ⟨bk_ BK399⟩, ⟨bk_ BK400⟩, ⟨bl2_ HB GE399 GE400⟩⟩
     case rest =>
      clear HC25
      try clear c1
      try clear c2
      try clear p2
      try clear c3
      try clear c3b0
      try clear c3b1
      try clear c5
      try clear p6
      try clear c7
      try clear c13
      try clear c13b0
      try clear c13b1
      try clear c14
      try clear c17
      try clear c18
      try clear c26
      try clear c26b0
      try clear c26b1
      try clear c27
      try clear c27b0
      try clear c27b1
      try clear hcz12_0 hcz12_1 hcz12_2 hcz12_3 hcz12_4 hcz12_5 hcz12_6
      try clear hcz19_0 hcz19_1
      try clear hcz8_0 hcz8_1
      try clear hcz9_0 hcz9_1 hcz9_2 hcz9_3 hcz9_4 hcz9_5 hcz9_6
      try clear hfz12_0 hfz12_1 hfz12_2 hfz12_3 hfz12_4 hfz12_5 hfz12_6
      try clear hfz19_0 hfz19_1
      try clear hfz8_0 hfz8_1
      try clear hfz9_0 hfz9_1 hfz9_2 hfz9_3 hfz9_4 hfz9_5 hfz9_6
      try clear p2
      try clear p6
      obtain ⟨kq, x33_24, rfl, HA, HJ24, HO_5, BK399, BK400, HB⟩ := hcut
      cases kq with
      | zero => exact absurd HA.out (by simp [basculeref03_AnswerBytes.j1])
      | succ kj24 =>
       have H := HA.out
       clear HA
       simp only [basculeref03_AnswerBytes.j1] at H
       by_cases c28 : x33_24 = true
       ·subst c28
        have H1 : ((basculeref03_lay.f kj24 l1_0).bind fun t416 => ((basculeref03_counted.f t416).bind fun t419 => (if y404.length + t419.length < 140737488355328 then (some (y404 ++ t419)) else (none)))) = some r := by rw [if_pos rfl] at H; exact H
        clear H
        have H := H1
        clear H1
        replace H := Option.bind_eq_some_iff.mp H
        obtain ⟨t416, A290, H⟩ := H
        replace H : ((basculeref03_counted.f t416).bind fun t419 => (if y404.length + t419.length < 140737488355328 then (some (y404 ++ t419)) else (none))) = some r := H
        have A29 := Aside0.mk A290
        clear A290
        replace H := Option.bind_eq_some_iff.mp H
        obtain ⟨t419, A300, H⟩ := H
        replace H : (if y404.length + t419.length < 140737488355328 then (some (y404 ++ t419)) else (none)) = some r := H
        have A30 := Aside0.mk A300
        clear A300
        by_cases c31 : y404.length + t419.length < 140737488355328
        ·rw [if_pos c31] at H
         have LMc31 := Aside0.mk c31
         clear c31
         obtain ⟨y422, hy422⟩ : ∃ y_ : List Int, y_ = (y404 ++ t419) := ⟨_, rfl⟩
         replace H : (some y422) = some r := by first | (rw [hy422]; with_reducible exact H) | (have H2_ := (Option.bind_some _ _).symm.trans H; rw [hy422]; with_reducible exact H2_) | (have H2_ := (Option.bind_some _ _).symm.trans H; with_reducible exact H2_) | with_reducible exact H | (rw [hy422]; exact H) | exact H
         have Ny422 := Aside0.mk hy422
         clear hy422
         obtain rfl := Option.some.inj H
         have hnb32 := NB400_399.out
         have hnc32 := NB399_400.out
         refine cz2_ BK400.out ?_; intro hcz33_0 hcz33_1 hfz33_0 hfz33_1
         go_wp2_with (first | ((with_reducible refine gate_callee (f := 54) rfl ?_); refine goesL_ (some 40) rfl rfl Try.func54 (by kernel_rfl) rfl #[.slice A1_0 l1_0.length c1_0] rfl ar_ ?_; (with_reducible refine (basculeref03_lay.calls kj24 _ _ l1_0 t416 _ ?side1 ?side2 A29.out).mono ?_); (case side1 => exact sc_ (Kd.C_below HR1_0.out HB.out)); (case side2 => exact HC1_0.out); rintro e w34 ⟨v417, rfl, ho0, hb⟩; refine ⟨_, rfl, ?_⟩; have n0_ := Aside0.mk (Kd.R_elder' (kr_ HO_5) (Kd.R_base ho0) hb); have n1_ := Aside0.mk (Kd.R_lower (Kd.R_new' ho0 (Kd.R_lt (kr_ HO_5))) (below_size (bl2_ HB GE399 GE400))); have n2_ := Aside0.mk (blk_below (g := gb399) (bk_ BK399) hb); have n3_ := Aside0.mk (blk_below (g := gb400) (bk_ BK400) hb); have n4_ := Aside0.mk (below_step (bl2_ HB GE399 GE400) hb); clear HO_5; clear BK399; clear BK400; clear HB; have HO_5 := n0_; have HO418 := n1_; have BK399 := n2_; have BK400 := n3_; have HB := n4_; clear n0_ n1_ n2_ n3_ n4_; (try clear hb); (try clear hb2); (try clear hk); (try clear hi); (try clear ho0); obtain ⟨Ao35, co35, eo35⟩ := Kd.R_slice HO418.out; subst eo35) | ((with_reducible refine gate_callee (f := 52) rfl ?_); refine goesL_ (some 41) rfl rfl Try.func52 (by kernel_rfl) rfl #[.slice Ao35 t416.length co35] rfl ar_ ?_; (with_reducible refine (basculeref03_counted.calls _ _ t416 t419 _ ?side1 ?side2 A30.out).mono ?_); (case side1 => exact sc_ (Kd.R_reads' HO418.out).2.2); (case side2 => exact (Kd.R_reads' HO418.out).2.1); rintro e w36 ⟨v420, rfl, ho0, hb⟩; refine ⟨_, rfl, ?_⟩; have n0_ := Aside0.mk (Kd.R_elder' (kr_ HO_5) (Kd.R_base ho0) hb); have n1_ := Aside0.mk (Kd.R_elder' (kr_ HO418) (Kd.R_base ho0) hb); have n2_ := Aside0.mk (Kd.R_lower (Kd.R_new' (Kd.R_new' ho0 (Kd.R_lt (kr_ HO_5))) (Kd.R_lt (kr_ HO418))) (below_size (bl2_ HB GE399 GE400))); have n3_ := Aside0.mk (blk_below (g := gb399) (bk_ BK399) hb); have n4_ := Aside0.mk (blk_below (g := gb400) (bk_ BK400) hb); have n5_ := Aside0.mk (below_step (bl2_ HB GE399 GE400) hb); clear HO_5; clear HO418; clear BK399; clear BK400; clear HB; have HO_5 := n0_; have HO418 := n1_; have HO421 := n2_; have BK399 := n3_; have BK400 := n4_; have HB := n5_; clear n0_ n1_ n2_ n3_ n4_ n5_; (try clear hb); (try clear hb2); (try clear hk); (try clear hi); (try clear ho0); obtain ⟨Ao38, co38, eo38⟩ := Kd.R_slice HO421.out; subst eo38) | ((with_reducible refine gate_builtin (b := .append) (xs := #[.tmp 37, .tmp 41]) rfl ?_); at_builtin; refine Kd.R_append_rows (Kd.int .u8) (w0 := w) w.heap.size rfl (.tmp 37) (.tmp 41) 43 5 (.int .u8 0) 1 rfl Try.underlying43 info5 rfl (by decide) (by omega) v405 y404 t419 _ _ _ (fun k_ => some k_ ≠ (.slice Ao35 t416.length co35 : Value).ownBlock ∧ some k_ ≠ (.slice Ao38 t419.length co38 : Value).ownBlock) (fun _ => False) rfl rfl ?aO ?aR (fun _ _ h => h) (fun _ h => h.elim) ?aF ?aB ?aS ?aL ?_; (case aR => exact sc_ (Kd.R_reads' HO421.out).2.2); (case aB => exact (bl2_ HB GE399 GE400)); (case aF => exact (fun k_ hk => ⟨Kd.fresh' (Kd.R_lt (kr_ HO418)) k_ hk, Kd.fresh' (Kd.R_lt (kr_ HO421)) k_ hk⟩)); (case aO => exact (by (with_reducible repeat (first | apply Kd.R_alloc | apply Kd.R_drewN | apply Kd.R_drew)); exact Kd.R_mono HO_5.out (fun _ hk => ⟨hk.1.2, hk.2⟩))); (case aS => exact (below_size (bl2_ HB GE399 GE400))); (case aL => have := LMc31.out; omega); intro v423 w37 ho hb hg hat; rw [← Ny422.out] at ho; have n0_ := Aside0.mk (blk_grown (g := gb399) (bk_ BK399) hg (Kd.R_ne HO_5.out BK399.out (by decide))); have n1_ := Aside0.mk (blk_grown (g := gb400) (bk_ BK400) hg (Kd.R_ne HO_5.out BK400.out (by decide))); have n2_ := Aside0.mk (Kd.R_after (ok := (fun k_ => some k_ ≠ (.slice Ao38 t419.length co38 : Value).ownBlock)) (by (with_reducible repeat (first | apply Kd.R_alloc | apply Kd.R_drewN | apply Kd.R_drew)); exact Kd.R_mono HO418.out (fun _ hk => ⟨hk.2, hk.1.2⟩)) hg hat); have n3_ := Aside0.mk (Kd.R_after (ok := (fun k_ => some k_ ≠ (.slice Ao35 t416.length co35 : Value).ownBlock)) (by (with_reducible repeat (first | apply Kd.R_alloc | apply Kd.R_drewN | apply Kd.R_drew)); exact Kd.R_mono HO421.out (fun _ hk => ⟨hk.2, hk.1.2⟩)) hg hat); have n4_ := Aside0.mk (hb); have n5_ := Aside0.mk (ho); clear BK399; clear BK400; clear HO418; clear HO421; clear HB; clear HO_5; have BK399 := n0_; have BK400 := n1_; have HO418 := n2_; have HO421 := n3_; have HB := n4_; have HO424 := n5_; clear n0_ n1_ n2_ n3_ n4_ n5_; clear ho hb hg hat))
         go_ret
         exact ⟨_, er_, by (with_reducible repeat (first | apply Kd.R_alloc | apply Kd.R_drewN | apply Kd.R_drew)); exact Kd.R_mono HO424.out (fun _ hk => trivial), bl2_ HB GE399 GE400⟩
        ·rw [if_neg c31] at H
         exact absurd H (by simp)
       ·replace c28 := Bool.eq_false_iff.mpr c28
        subst c28
        have H1 : (if a0_0 = 15 then (basculeref03_AnswerBytes.j2 kj24 y404 (a0_0 == 15) a0_0 a0_1 a0_2 l0_3 a0_4 a0_5 a0_6) else (basculeref03_AnswerBytes.j2 kj24 y404 (a0_0 == 16) a0_0 a0_1 a0_2 l0_3 a0_4 a0_5 a0_6)) = some r := by rw [if_neg (show ¬ (false = true) by decide)] at H; exact H
        clear H
        have H := H1
        clear H1
        have HC39 := Aside0.mk H
        clear H
        go_upto_if 44 with (fail)
        go_cut [44] (fun v44 wc => ∃ (kq : Nat) (x44_38 : Bool), v44 = .bool x44_38 ∧ Aside0 (basculeref03_AnswerBytes.j2 kq y404 x44_38 a0_0 a0_1 a0_2 l0_3 a0_4 a0_5 a0_6 = some r) ∧ Aside0 (kq ≤ kj24) ∧ Aside0 (Kd.R (Kd.int .u8) 5 wc w.heap.size (fun _ => True) v405 y404) ∧ Aside0 (wc.heap[gb399]? = some (.cells #[.int .i64 a0_0, .int .i64 a0_1, .int .i64 a0_2, (.slice A0_3 l0_3.length c0_3), .int .i64 a0_4, .int .i64 a0_5, .int .i64 a0_6] 31 (0, 0))) ∧ Aside0 (wc.heap[gb400]? = some (.cells #[(.slice A1_0 l1_0.length c1_0), .int .i64 a1_1] 46 (0, 0))) ∧ Aside0 (Below w.heap.size w wc))
        case first =>
         have H := HC39.out
         clear HC39
         by_cases c40 : a0_0 = 15
         ·rw [if_pos c40] at H
          have c40b0 : (a0_0 == 15) = true := beq_iff_eq.mpr c40
          have c40b1 : (a0_0 != 15) = false := bne_eq_false_iff_eq.mpr c40
          clear c40
          (first | rw [c40b0] | (simp only [i64_w, i32_w]; rw [c40b0]) | skip)
          have H' := Aside0.mk H
          clear H
          go_wp2
          go_meet
          case rel => exact ⟨_, ((a0_0 == 15)), (by first | rfl | (simp; done) | (simp [*]; done)), H', ⟨by have := HJ3.out; have := HJ24.out; first | omega | exact Nat.le_refl _⟩, ⟨kr_ HO_5⟩, ⟨bk_ BK399⟩, ⟨bk_ BK400⟩, ⟨bl2_ HB GE399 GE400⟩⟩
         ·rw [if_neg c40] at H
          have c40b0 : (a0_0 == 15) = false := beq_eq_false_iff_ne.mpr c40
          have c40b1 : (a0_0 != 15) = true := bne_iff_ne.mpr c40
          (first | rw [c40b0] | (simp only [i64_w, i32_w]; rw [c40b0]) | skip)
          have H' := Aside0.mk H
          clear H
          go_wp2
          go_meet
          case rel => exact ⟨_, ((a0_0 == 16)), (by first | rfl | (simp; done) | (simp [*]; done)), H', ⟨by have := HJ3.out; have := HJ24.out; first | omega | exact Nat.le_refl _⟩, ⟨kr_ HO_5⟩, ⟨bk_ BK399⟩, ⟨bk_ BK400⟩, ⟨bl2_ HB GE399 GE400⟩⟩
        case rest =>
         clear HC39
         try clear c1
         try clear c2
         try clear p2
         try clear c3
         try clear c3b0
         try clear c3b1
         try clear c4
         try clear c5
         try clear p6
         try clear c7
         try clear c13
         try clear c13b0
         try clear c13b1
         try clear c14
         try clear c17
         try clear c18
         try clear c26
         try clear c26b0
         try clear c26b1
         try clear c27
         try clear c27b0
         try clear c27b1
         try clear c28
         try clear c31
         try clear c32
         try clear c37
         try clear c40
         try clear c40b0
         try clear c40b1
         try clear hcz12_0 hcz12_1 hcz12_2 hcz12_3 hcz12_4 hcz12_5 hcz12_6
         try clear hcz19_0 hcz19_1
         try clear hcz33_0 hcz33_1
         try clear hcz8_0 hcz8_1
         try clear hcz9_0 hcz9_1 hcz9_2 hcz9_3 hcz9_4 hcz9_5 hcz9_6
         try clear hfz12_0 hfz12_1 hfz12_2 hfz12_3 hfz12_4 hfz12_5 hfz12_6
         try clear hfz19_0 hfz19_1
         try clear hfz33_0 hfz33_1
         try clear hfz8_0 hfz8_1
         try clear hfz9_0 hfz9_1 hfz9_2 hfz9_3 hfz9_4 hfz9_5 hfz9_6
         try clear p2
         try clear p6
         obtain ⟨kq, x44_38, rfl, HA, HJ38, HO_5, BK399, BK400, HB⟩ := hcut
         cases kq with
         | zero => exact absurd HA.out (by simp [basculeref03_AnswerBytes.j2])
         | succ kj38 =>
          have H := HA.out
          clear HA
          simp only [basculeref03_AnswerBytes.j2] at H
          by_cases c41 : x44_38 = true
          ·subst c41
           have H1 : ((basculeref03_lay.f kj38 (([a0_1, a0_2] : List Int))).bind fun t428 => (if y404.length + t428.length < 140737488355328 then (some (y404 ++ t428)) else (none))) = some r := by rw [if_pos rfl] at H; exact H
           clear H
           have H := H1
           clear H1
           obtain ⟨y425, hy425⟩ : ∃ y_ : List Int, y_ = (([a0_1, a0_2] : List Int)) := ⟨_, rfl⟩
           replace H : ((basculeref03_lay.f kj38 y425).bind fun t428 => (if y404.length + t428.length < 140737488355328 then (some (y404 ++ t428)) else (none))) = some r := by first | (rw [hy425]; with_reducible exact H) | (have H2_ := (Option.bind_some _ _).symm.trans H; rw [hy425]; with_reducible exact H2_) | (have H2_ := (Option.bind_some _ _).symm.trans H; with_reducible exact H2_) | with_reducible exact H | (rw [hy425]; exact H) | exact H
           have Ny425 := Aside0.mk hy425
           clear hy425
           replace H := Option.bind_eq_some_iff.mp H
           obtain ⟨t428, A420, H⟩ := H
           replace H : (if y404.length + t428.length < 140737488355328 then (some (y404 ++ t428)) else (none)) = some r := H
           have A42 := Aside0.mk A420
           clear A420
           by_cases c43 : y404.length + t428.length < 140737488355328
           ·rw [if_pos c43] at H
            have LMc43 := Aside0.mk c43
            clear c43
            obtain ⟨y431, hy431⟩ : ∃ y_ : List Int, y_ = (y404 ++ t428) := ⟨_, rfl⟩
            replace H : (some y431) = some r := by first | (rw [hy431]; with_reducible exact H) | (have H2_ := (Option.bind_some _ _).symm.trans H; rw [hy431]; with_reducible exact H2_) | (have H2_ := (Option.bind_some _ _).symm.trans H; with_reducible exact H2_) | with_reducible exact H | (rw [hy431]; exact H) | exact H
            have Ny431 := Aside0.mk hy431
            clear hy431
            obtain rfl := Option.some.inj H
            have hnb44 := NB399_400.out
            have hnc44 := NB400_399.out
            refine cz7_ BK399.out ?_; intro hcz45_0 hcz45_1 hcz45_2 hcz45_3 hcz45_4 hcz45_5 hcz45_6 hfz45_0 hfz45_1 hfz45_2 hfz45_3 hfz45_4 hfz45_5 hfz45_6
            go_wp2_with (first | ((with_reducible refine gate_dst (N := 52) rfl ?_); refine Kd.R_lit (Kd.int .i64) _ 3 ?hg (N := 52) ?hd (xs := ([a0_1, a0_2] : List Int)) (inner := [.int .i64 a0_1, .int .i64 a0_2]) (ok := fun _ => True) (okp := fun _ => True) ?hr ?hp (fun _ hk => hk) trivial (Below.refl _ _) (Nat.le_refl _) (by simp) ?_; (case hd => rfl); (case hg => rfl); (case hr => first | (go_simp; done) | (go_simp; rfl)); (case hp => exact (Reps.one (show Kd.M (Kd.int .i64) _ _ _ a0_1 [.int .i64 a0_1] from rfl) (Reps.one (show Kd.M (Kd.int .i64) _ _ _ a0_2 [.int .i64 a0_2] from rfl) (Reps.none _ _)))); intro v426 w46 ho47 hb hg_ hnew_; clear hg_ hnew_; (first | rw [← Ny425.out] at ho47 | (simp only [Int.reduceToNat] at ho47; rw [← Ny425.out] at ho47)); have n0_ := Aside0.mk (Kd.R_below (kr_ HO_5) hb); have n1_ := Aside0.mk (Kd.R_lower ho47 (below_size (bl2_ HB GE399 GE400))); have n2_ := Aside0.mk (blk_below (g := gb399) (bk_ BK399) hb); have n3_ := Aside0.mk (blk_below (g := gb400) (bk_ BK400) hb); have n4_ := Aside0.mk (below_step (bl2_ HB GE399 GE400) hb); clear HO_5; clear BK399; clear BK400; clear HB; have HO_5 := n0_; have HO427 := n1_; have BK399 := n2_; have BK400 := n3_; have HB := n4_; clear n0_ n1_ n2_ n3_ n4_; clear hb ho47; obtain ⟨Ao48, co48, eo48⟩ := Kd.R_slice HO427.out; subst eo48) | ((with_reducible refine gate_callee (f := 54) rfl ?_); refine goesL_ (some 53) rfl rfl Try.func54 (by kernel_rfl) rfl #[.slice Ao48 y425.length co48] rfl ar_ ?_; (with_reducible refine (basculeref03_lay.calls kj38 _ _ y425 t428 _ ?side1 ?side2 A42.out).mono ?_); (case side1 => exact sc_ (Kd.R_reads' HO427.out).2.2); (case side2 => exact (Kd.R_reads' HO427.out).2.1); rintro e w49 ⟨v429, rfl, ho0, hb⟩; refine ⟨_, rfl, ?_⟩; have n0_ := Aside0.mk (Kd.R_elder' (kr_ HO_5) (Kd.R_base ho0) hb); have n1_ := Aside0.mk (Kd.R_below (kr_ HO427) hb); have n2_ := Aside0.mk (Kd.R_lower (Kd.R_new' ho0 (Kd.R_lt (kr_ HO_5))) (below_size (bl2_ HB GE399 GE400))); have n3_ := Aside0.mk (blk_below (g := gb399) (bk_ BK399) hb); have n4_ := Aside0.mk (blk_below (g := gb400) (bk_ BK400) hb); have n5_ := Aside0.mk (below_step (bl2_ HB GE399 GE400) hb); clear HO_5; clear HO427; clear BK399; clear BK400; clear HB; have HO_5 := n0_; have HO427 := n1_; have HO430 := n2_; have BK399 := n3_; have BK400 := n4_; have HB := n5_; clear n0_ n1_ n2_ n3_ n4_ n5_; (try clear hb); (try clear hb2); (try clear hk); (try clear hi); (try clear ho0); obtain ⟨Ao51, co51, eo51⟩ := Kd.R_slice HO430.out; subst eo51) | ((with_reducible refine gate_builtin (b := .append) (xs := #[.tmp 47, .tmp 53]) rfl ?_); at_builtin; refine Kd.R_append_rows (Kd.int .u8) (w0 := w) w.heap.size rfl (.tmp 47) (.tmp 53) 43 5 (.int .u8 0) 1 rfl Try.underlying43 info5 rfl (by decide) (by omega) v405 y404 t428 _ _ _ (fun k_ => some k_ ≠ (.slice Ao51 t428.length co51 : Value).ownBlock) (fun _ => False) rfl rfl ?aO ?aR (fun _ _ h => h) (fun _ h => h.elim) ?aF ?aB ?aS ?aL ?_; (case aR => exact sc_ (Kd.R_reads' HO430.out).2.2); (case aB => exact (bl2_ HB GE399 GE400)); (case aF => exact (fun k_ hk => Kd.fresh' (Kd.R_lt (kr_ HO430)) k_ hk)); (case aO => exact (by (with_reducible repeat (first | apply Kd.R_alloc | apply Kd.R_drewN | apply Kd.R_drew)); exact Kd.R_mono HO_5.out (fun _ hk => hk.2))); (case aS => exact (below_size (bl2_ HB GE399 GE400))); (case aL => have := LMc43.out; omega); intro v432 w50 ho hb hg hat; rw [← Ny431.out] at ho; have n0_ := Aside0.mk (blk_grown (g := gb399) (bk_ BK399) hg (Kd.R_ne HO_5.out BK399.out (by decide))); have n1_ := Aside0.mk (blk_grown (g := gb400) (bk_ BK400) hg (Kd.R_ne HO_5.out BK400.out (by decide))); have n2_ := Aside0.mk (Kd.R_over' (kr_ HO427) (Kd.R_typed (kr_ HO_5)) (by decide) hg); have n3_ := Aside0.mk (Kd.R_after (ok := (fun _ => True)) (kr_ HO430) hg hat); have n4_ := Aside0.mk (hb); have n5_ := Aside0.mk (ho); clear BK399; clear BK400; clear HO427; clear HO430; clear HB; clear HO_5; have BK399 := n0_; have BK400 := n1_; have HO427 := n2_; have HO430 := n3_; have HB := n4_; have HO433 := n5_; clear n0_ n1_ n2_ n3_ n4_ n5_; clear ho hb hg hat))
            go_ret
            exact ⟨_, er_, by (with_reducible repeat (first | apply Kd.R_alloc | apply Kd.R_drewN | apply Kd.R_drew)); exact Kd.R_mono HO433.out (fun _ hk => trivial), bl2_ HB GE399 GE400⟩
           ·rw [if_neg c43] at H
            exact absurd H (by simp)
          ·replace c41 := Bool.eq_false_iff.mpr c41
           subst c41
           have H1 : ((basculeref03_Bytes.f kj38 a0_0 a0_1 a0_2 l0_3 a0_4 a0_5 a0_6).bind fun t434 => (some t434)) = some r := by rw [if_neg (show ¬ (false = true) by decide)] at H; exact H
           clear H
           have H := H1
           clear H1
           replace H := Option.bind_eq_some_iff.mp H
           obtain ⟨t434, A520, H⟩ := H
           replace H : (some t434) = some r := H
           have A52 := Aside0.mk A520
           clear A520
           obtain rfl := Option.some.inj H
           have hnb53 := NB399_400.out
           have hnc53 := NB400_399.out
           refine cz7_ BK399.out ?_; intro hcz54_0 hcz54_1 hcz54_2 hcz54_3 hcz54_4 hcz54_5 hcz54_6 hfz54_0 hfz54_1 hfz54_2 hfz54_3 hfz54_4 hfz54_5 hfz54_6
           go_wp2_with (first | ((with_reducible refine gate_callee (f := 55) rfl ?_); refine goesL_ (some 57) rfl rfl Try.func55 (by kernel_rfl) rfl #[.agg #[.int .i64 a0_0, .int .i64 a0_1, .int .i64 a0_2, .slice A0_3 l0_3.length c0_3, .int .i64 a0_4, .int .i64 a0_5, .int .i64 a0_6]] rfl ar_ ?_; (with_reducible refine (basculeref03_Bytes.calls kj38 a0_0 a0_1 a0_2 _ _ l0_3 a0_4 a0_5 a0_6 t434 _ ?side1 ?side2 A52.out).mono ?_); (case side1 => exact sc_ (Kd.C_below HR0_3.out HB.out)); (case side2 => exact HC0_3.out); rintro e w55 ⟨v435, rfl, ho0, hb⟩; refine ⟨_, rfl, ?_⟩; have n0_ := Aside0.mk (Kd.R_elder' (kr_ HO_5) (Kd.R_base ho0) hb); have n1_ := Aside0.mk (Kd.R_lower (Kd.R_new' ho0 (Kd.R_lt (kr_ HO_5))) (below_size (bl2_ HB GE399 GE400))); have n2_ := Aside0.mk (blk_below (g := gb399) (bk_ BK399) hb); have n3_ := Aside0.mk (blk_below (g := gb400) (bk_ BK400) hb); have n4_ := Aside0.mk (below_step (bl2_ HB GE399 GE400) hb); clear HO_5; clear BK399; clear BK400; clear HB; have HO_5 := n0_; have HO436 := n1_; have BK399 := n2_; have BK400 := n3_; have HB := n4_; clear n0_ n1_ n2_ n3_ n4_; (try clear hb); (try clear hb2); (try clear hk); (try clear hi); (try clear ho0)))
           go_ret
           exact ⟨_, er_, by (with_reducible repeat (first | apply Kd.R_alloc | apply Kd.R_drewN | apply Kd.R_drew)); exact Kd.R_mono HO436.out (fun _ hk => trivial), bl2_ HB GE399 GE400⟩
 ·rw [if_neg c3] at H
  have c3b0 : (a1_1 == 0) = false := beq_eq_false_iff_ne.mpr c3
  have c3b1 : (a1_1 != 0) = true := bne_iff_ne.mpr c3
  obtain ⟨y401, hy401⟩ : ∃ y_ : List Int, y_ = (([(wrap64 (a0_0 + 128)) % 256, (a1_1) % 256] : List Int)) := ⟨_, rfl⟩
  replace H : (some y401) = some r := by first | (rw [hy401]; with_reducible exact H) | (have H2_ := (Option.bind_some _ _).symm.trans H; rw [hy401]; with_reducible exact H2_) | (have H2_ := (Option.bind_some _ _).symm.trans H; with_reducible exact H2_) | with_reducible exact H | (rw [hy401]; exact H) | exact H
  have Ny401 := Aside0.mk hy401
  clear hy401
  obtain rfl := Option.some.inj H
  go_enter Try.func37, Try.ntmps37
  go_wp2_with (first | ((with_reducible refine gate_dst (N := 2) rfl ?_); refine bx_ (N := 2) (cs := #[.int .i64 a0_0, .int .i64 a0_1, .int .i64 a0_2, .slice A0_3 l0_3.length c0_3, .int .i64 a0_4, .int .i64 a0_5, .int .i64 a0_6]) (t := 31) ?_; intro gb399 hg w56 hbox hb; have n0_ := Aside0.mk (below_step (bl0_ HB) hb); have n1_ := Aside0.mk (hbox); have n2_ := Aside0.mk ((by rw [hg]; exact (below_size (bl0_ HB)) : w.heap.size ≤ gb399)); have n3_ := Aside0.mk ((by rw [hg]; exact (below_size (bl0_ HB)) : w.heap.size ≤ gb399)); clear HB; have HB := n0_; have BK399 := n1_; have GW399 := n2_; have GE399 := n3_; clear n0_ n1_ n2_ n3_; clear hb hbox hg) | ((with_reducible refine gate_dst (N := 3) rfl ?_); refine bx_ (N := 3) (cs := #[.slice A1_0 l1_0.length c1_0, .int .i64 a1_1]) (t := 46) ?_; intro gb400 hg w57 hbox hb; have n0_ := Aside0.mk (blk_below (g := gb399) (bk_ BK399) hb); have n1_ := Aside0.mk (below_step (bl1_ HB GE399) hb); have n2_ := Aside0.mk (hbox); have n3_ := Aside0.mk ((by rw [hg]; exact (below_size (bl1_ HB GE399)) : w.heap.size ≤ gb400)); have n4_ := Aside0.mk ((by rw [hg]; exact (below_size (bl1_ HB GE399)) : w.heap.size ≤ gb400)); have n5_ := Aside0.mk ((by rw [hg]; exact Nat.ne_of_lt (blk_lt (g := gb399) (bk_ BK399)) : gb399 ≠ gb400)); have n6_ := Aside0.mk ((by rw [hg]; exact Nat.ne_of_gt (blk_lt (g := gb399) (bk_ BK399)) : gb400 ≠ gb399)); clear BK399; clear HB; have BK399 := n0_; have HB := n1_; have BK400 := n2_; have GW400 := n3_; have GE400 := n4_; have NB399_400 := n5_; have NB400_399 := n6_; clear n0_ n1_ n2_ n3_ n4_ n5_ n6_; clear hb hbox hg; have hnb58 := NB400_399.out; have hnc58 := NB399_400.out; refine cz2_ BK400.out ?_; intro hcz59_0 hcz59_1 hfz59_0 hfz59_1; refine cz7_ BK399.out ?_; intro hcz60_0 hcz60_1 hcz60_2 hcz60_3 hcz60_4 hcz60_5 hcz60_6 hfz60_0 hfz60_1 hfz60_2 hfz60_3 hfz60_4 hfz60_5 hfz60_6) | ((with_reducible refine gate_dst (N := 16) rfl ?_); refine Kd.R_lit (Kd.int .u8) _ 5 ?hg (N := 16) ?hd (xs := ([(wrap64 (a0_0 + 128)) % 256, (a1_1) % 256] : List Int)) (inner := [.int .u8 ((wrap64 (a0_0 + 128)) % 256), .int .u8 ((a1_1) % 256)]) (ok := fun _ => True) (okp := fun _ => True) ?hr ?hp (fun _ hk => hk) trivial (Below.refl _ _) (Nat.le_refl _) (by simp) ?_; (case hd => rfl); (case hg => rfl); (case hr => first | (go_simp; done) | (go_simp; rfl)); (case hp => exact (Reps.one (show Kd.M (Kd.int .u8) _ _ _ ((wrap64 (a0_0 + 128)) % 256) [.int .u8 ((wrap64 (a0_0 + 128)) % 256)] from rfl) (Reps.one (show Kd.M (Kd.int .u8) _ _ _ ((a1_1) % 256) [.int .u8 ((a1_1) % 256)] from rfl) (Reps.none _ _)))); intro v402 w61 ho62 hb hg_ hnew_; clear hg_ hnew_; (first | rw [← Ny401.out] at ho62 | (simp only [Int.reduceToNat] at ho62; rw [← Ny401.out] at ho62)); have n0_ := Aside0.mk (Kd.R_lower ho62 (below_size (bl2_ HB GE399 GE400))); have n1_ := Aside0.mk (blk_below (g := gb399) (bk_ BK399) hb); have n2_ := Aside0.mk (blk_below (g := gb400) (bk_ BK400) hb); have n3_ := Aside0.mk (below_step (bl2_ HB GE399 GE400) hb); clear BK399; clear BK400; clear HB; have HO403 := n0_; have BK399 := n1_; have BK400 := n2_; have HB := n3_; clear n0_ n1_ n2_ n3_; clear hb ho62))
  go_ret
  exact ⟨_, er_, kr_ HO403, bl2_ HB GE399 GE400⟩
end Go.Proofs.Ytlalpooiegganaa.PG
end

section
namespace Go.Proofs.Ytlalpooiegganaa.MathP
open Go.RowKit Go.Proofs.YtlalpooiegganaaW.PrintWords Go.Proofs.YtlalpooiegganaaW.PrintLast Go.Proofs.YtlalpooiegganaaW.PrintMore Go.Proofs.Ytlalpooiegganaa.Ext Go.Proofs.Ytlalpooiegganaa.ExtF Go.Proofs.Ytlalpooiegganaa.PP Go.Proofs.Ytlalpooiegganaa.PG Go.Proofs.Ytlalpooiegganaa.ExtM Go.Proofs.Ytlalpooiegganaa.PG
set_option linter.unusedVariables false
def Bytes (l : List Int) : Prop := ∀ x ∈ l, 0 ≤ x ∧ x < 256
instance (l : List Int) : Decidable (Bytes l) := by unfold Bytes; infer_instance
theorem bytes_rd {l : List Int} (hb : Bytes l) (i : Int) : 0 ≤ rd l i ∧ rd l i < 256 := by
 unfold rd
 rcases Nat.lt_or_ge i.toNat l.length with h | h
 ·rw [List.getD_eq_getElem?_getD, List.getElem?_eq_getElem h]
  exact hb _ (List.getElem_mem h)
 ·rw [List.getD_eq_getElem?_getD, List.getElem?_eq_none h]
  exact ⟨by decide, by decide⟩
theorem or_bit : ∀ m : Fin 8, ∀ p : Fin 128, p.1 < 2 ^ m.1 → Go.bits .or .u8 (p.1 : Int) (shl .u8 1 (m.1 : Int)) = (p.1 : Int) + 2 ^ m.1 := by decide +kernel
theorem and_bit : ∀ m : Fin 8, ∀ x : Fin 256, Go.bits .and .i64 (wrap64 (shr .u8 (x.1 : Int) (m.1 : Int))) 1 = (x.1 : Int) / 2 ^ m.1 % 2 := by decide +kernel
theorem bits_rd {l : List Int} (hb : Bits l) (i : Int) : rd l i = 0 ∨ rd l i = 1 := by
 unfold rd
 rcases Nat.lt_or_ge i.toNat l.length with h | h
 ·rw [List.getD_eq_getElem?_getD, List.getElem?_eq_getElem h]
  exact hb _ (List.getElem_mem h)
 ·rw [List.getD_eq_getElem?_getD, List.getElem?_eq_none h]
  exact Or.inl rfl
theorem rd_out (l : List Int) (i : Nat) (h : l.length ≤ i) : rd l (i : Int) = 0 := by
 unfold rd
 rw [List.getD_eq_getElem?_getD, Int.toNat_natCast, List.getElem?_eq_none h]
 rfl
def part (l : List Int) (i : Nat) : Nat → Int
 | 0 => 0
 | m + 1 => part l i m + 2 ^ m * rd l ((i + m : Nat) : Int)
theorem part_range {l : List Int} (hb : Bits l) (i : Nat) : ∀ m, 0 ≤ part l i m ∧ part l i m < 2 ^ m
 | 0 => by simp [part]
 | m + 1 => by
  have ih := part_range hb i m
  have h2 : (2 : Int) ^ (m + 1) = 2 * 2 ^ m := by rw [Int.pow_succ]; omega
  unfold part
  rcases bits_rd hb ((i + m : Nat) : Int) with h | h <;> rw [h] <;> omega
theorem part_beyond (l : List Int) (i : Nat) : ∀ (d m : Nat), l.length ≤ i + m → part l i (m + d) = part l i m
 | 0, m, _ => rfl
 | d + 1, m, h => by
  rw [← Nat.add_assoc]
  show part l i (m + d) + 2 ^ (m + d) * rd l ((i + (m + d) : Nat) : Int) = part l i m
  rw [rd_out l _ (by omega), part_beyond l i d m h]
  omega
def packs (l : List Int) : List Int := (List.range ((l.length + 7) / 8)).map fun j => part l (8 * j) 8
def bitOf (b : List Int) (i : Nat) : Int := rd b ((i / 8 : Nat) : Int) / 2 ^ (i % 8) % 2
def unbits (b : List Int) (n : Nat) : List Int := (List.range n).map (bitOf b)
theorem tdiv8 (i : Nat) (h : i ≤ 1000000000000000000) : wrap64 (Int.tdiv (i : Int) 8) = ((i / 8 : Nat) : Int) := by
 rw [Int.tdiv_eq_ediv_of_nonneg (by omega), wrap64_id _ (by omega) (by omega)]; omega
theorem tmod8 (i : Nat) : Int.tmod (i : Int) 8 = ((i % 8 : Nat) : Int) := by
 rw [Int.tmod_eq_emod_of_nonneg (by omega)]; omega
theorem pow8 (m : Nat) (h : m ≤ 8) : (2 : Int) ^ m ≤ 256 ∧ 0 < (2 : Int) ^ m := by
 have : m = 0 ∨ m = 1 ∨ m = 2 ∨ m = 3 ∨ m = 4 ∨ m = 5 ∨ m = 6 ∨ m = 7 ∨ m = 8 := by omega
 rcases this with rfl | rfl | rfl | rfl | rfl | rfl | rfl | rfl | rfl <;> simp
theorem rp_l1' (l : List Int) (hb : Bits l) (hl : l.length ≤ 1000000000000) (o : List Int) (ho : o.length < 140737488355328) (i : Nat) (hi : i ≤ l.length) (r : List Int) : ∀ (d m k : Nat), m + d = 8 →
 (∀ k', k ≤ k' → basculeref01_Pack.l0 k' l (o ++ [part l i 8]) ((i + 8 : Nat) : Int) = some r) → basculeref01_Pack.l1 (k + d + 1) l o (i : Int) (part l i m) (2 ^ m) ((i + m : Nat) : Int) = some r
 | d, m, k, hmd, hr => by
  have hp := part_range hb i m
  have h8 := pow8 m (by omega)
  have hp8 := part_range hb i 8
  have hw : wrap64 ((i : Int) + 8) = ((i + 8 : Nat) : Int) := by rw [wrap64_id _ (by omega) (by omega)]; omega
  have hmod : part l i 8 % 256 = part l i 8 := by have := hp8.2; omega
  unfold basculeref01_Pack.l1
  rw [hw]
  match d, hmd with
  | 0, hmd =>
   obtain rfl : m = 8 := by omega
   rw [if_neg (by omega), if_pos ho, hmod]
   exact hr _ (by omega)
  | d + 1, hmd =>
   rw [if_pos (by omega)]
   by_cases hc : i + m < l.length
   ·rw [if_pos (by omega), if_pos (by omega)]
    have hrd := bits_rd hb ((i + m : Nat) : Int)
    have e1 : wrap64 (part l i m + wrap64 (2 ^ m * rd l ((i + m : Nat) : Int))) = part l i (m + 1) := by
     show _ = part l i m + 2 ^ m * rd l ((i + m : Nat) : Int)
     rcases hrd with h | h <;> rw [h]
     ·rw [Int.mul_zero, wrap64_id 0 (by omega) (by omega), wrap64_id _ (by omega) (by omega)]
     ·rw [Int.mul_one, wrap64_id (2 ^ m) (by omega) (by omega), wrap64_id _ (by omega) (by omega)]
    have e2 : wrap64 (2 * 2 ^ m) = 2 ^ (m + 1) := by rw [wrap64_id _ (by omega) (by omega), Int.pow_succ]; omega
    have e3 : wrap64 (((i + m : Nat) : Int) + 1) = ((i + (m + 1) : Nat) : Int) := by rw [wrap64_id _ (by omega) (by omega)]; omega
    rw [e1, e2, e3]
    exact rp_l1' l hb hl o ho i hi r d (m + 1) k (by omega) hr
   ·rw [if_neg (by omega), if_pos ho]
    have : part l i 8 = part l i m := by
     have := part_beyond l i (d + 1) m (by omega)
     rw [hmd] at this
     exact this
    rw [← this, hmod]
    exact hr _ (by omega)
theorem rp_l0 (l : List Int) (hb : Bits l) (hl : l.length ≤ 1000000000000) : ∀ (d j k : Nat), j + d = (l.length + 7) / 8 → 20 * d + 1 ≤ k →
 basculeref01_Pack.l0 k l ((List.range j).map fun j => part l (8 * j) 8) ((8 * j : Nat) : Int) = some (packs l)
 | 0, j, k, hj, hk => by
  obtain ⟨k, rfl⟩ := Nat.exists_eq_add_of_le' (show 1 ≤ k by omega)
  unfold basculeref01_Pack.l0
  rw [if_neg (by omega)]
  unfold packs
  rw [← hj, Nat.add_zero]
 | d + 1, j, k, hj, hk => by
  obtain ⟨k, rfl⟩ := Nat.exists_eq_add_of_le' (show 20 * d + 10 + 1 ≤ k by omega)
  have : k + (20 * d + 10 + 1) = (k + 20 * d + 1 + 8 + 1) + 1 := by omega
  rw [this]
  unfold basculeref01_Pack.l0
  rw [if_pos (by omega)]
  refine rp_l1' l hb hl _ (by simp; omega) (8 * j) (by omega) _ 8 0 (k + 20 * d + 1) (by omega) (fun k' hk' => ?_)
  have := rp_l0 l hb hl d (j + 1) k' (by omega) (by omega)
  rw [List.range_succ, List.map_append] at this
  rw [show 8 * j + 8 = 8 * (j + 1) from by omega]
  exact this
theorem refpack_f (l : List Int) (hb : Bits l) (hl : l.length ≤ 1000000000000) (k : Nat) (hk : 3 * l.length + 100 ≤ k) : basculeref01_Pack.f k l = some (packs l) := by
 unfold basculeref01_Pack.f
 exact rp_l0 l hb hl ((l.length + 7) / 8) 0 k (by omega) (by omega)
theorem or_step (p : Int) (m : Nat) (hm : m < 8) (h : 0 ≤ p ∧ p < 2 ^ m) : Go.bits .or .u8 p (shl .u8 1 (m : Int)) = p + 2 ^ m := by
 obtain ⟨q, rfl⟩ := Int.eq_ofNat_of_zero_le h.1
 have h2 : q < 2 ^ m := by have := h.2; exact_mod_cast this
 have h3 : (2 : Nat) ^ m ≤ 2 ^ 7 := Nat.pow_le_pow_right (by omega) (by omega)
 exact or_bit ⟨m, hm⟩ ⟨q, by omega⟩ h2
def upto (l : List Int) (n i : Nat) : List Int := (List.range n).map fun j => part l (8 * j) (min 8 (i - 8 * j))
theorem upto_len (l : List Int) (n i : Nat) : (upto l n i).length = n := by simp [upto]
theorem upto_rd (l : List Int) (n i j : Nat) (h : j < n) : rd (upto l n i) (j : Int) = part l (8 * j) (min 8 (i - 8 * j)) := by
 unfold rd
 rw [Int.toNat_natCast, List.getD_eq_getElem?_getD, List.getElem?_eq_getElem (by rw [upto_len]; exact h)]
 simp [upto]
theorem upto_zero (l : List Int) (n i : Nat) (hn : i / 8 < n) (h : rd l (i : Int) = 0) : upto l n (i + 1) = upto l n i := by
 unfold upto
 apply List.map_congr_left
 intro j hj
 by_cases hc : i / 8 = j
 ·subst hc
  rw [show min 8 (i + 1 - 8 * (i / 8)) = min 8 (i - 8 * (i / 8)) + 1 from by omega]
  show _ + 2 ^ _ * rd l ((8 * (i / 8) + min 8 (i - 8 * (i / 8)) : Nat) : Int) = _
  rw [show 8 * (i / 8) + min 8 (i - 8 * (i / 8)) = i from by omega, h]
  omega
 ·rw [show min 8 (i + 1 - 8 * j) = min 8 (i - 8 * j) from by omega]
theorem upto_one (l : List Int) (hb : Bits l) (n i : Nat) (hn : i / 8 < n) (h : rd l (i : Int) = 1) :
 (upto l n i).set (i / 8) (Go.bits .or .u8 (rd (upto l n i) ((i / 8 : Nat) : Int)) (shl .u8 1 ((i % 8 : Nat) : Int))) = upto l n (i + 1) := by
 rw [upto_rd l n i (i / 8) hn, show min 8 (i - 8 * (i / 8)) = i % 8 from by omega, or_step _ _ (by omega) (part_range hb _ _)]
 apply List.ext_getElem
 ·simp [upto]
 intro j h1 h2
 have hj : j < n := by rw [upto_len] at h2; exact h2
 rw [List.getElem_set]
 by_cases hc : i / 8 = j
 ·subst hc
  rw [if_pos rfl]
  simp only [upto, List.getElem_map, List.getElem_range]
  rw [show min 8 (i + 1 - 8 * (i / 8)) = i % 8 + 1 from by omega]
  show _ = _ + 2 ^ _ * rd l ((8 * (i / 8) + i % 8 : Nat) : Int)
  rw [show 8 * (i / 8) + i % 8 = i from by omega, h, Int.mul_one]
 ·rw [if_neg hc]
  simp only [upto, List.getElem_map, List.getElem_range]
  rw [show min 8 (i + 1 - 8 * j) = min 8 (i - 8 * j) from by omega]
theorem upto_end (l : List Int) : upto l ((l.length + 7) / 8) l.length = packs l := by
 unfold upto packs
 apply List.map_congr_left
 intro j hj
 have hj := List.mem_range.1 hj
 by_cases hc : 8 * j + 8 ≤ l.length
 ·rw [show min 8 (l.length - 8 * j) = 8 from by omega]
 ·have := part_beyond l (8 * j) (8 - (l.length - 8 * j)) (l.length - 8 * j) (by omega)
  rw [show l.length - 8 * j + (8 - (l.length - 8 * j)) = 8 from by omega] at this
  rw [this, show min 8 (l.length - 8 * j) = l.length - 8 * j from by omega]
theorem wp_l0 (l : List Int) (hb : Bits l) (hl : l.length ≤ 1000000000000) : ∀ (d i k : Nat), i + d = l.length → d + 1 ≤ k →
 wire_Pack.l0 k (upto l ((l.length + 7) / 8) i) l (l.length : Int) (i : Int) = some (packs l, 0)
 | 0, i, k, hi, hk => by
  obtain ⟨k, rfl⟩ := Nat.exists_eq_add_of_le' (show 1 ≤ k by omega)
  unfold wire_Pack.l0
  rw [if_neg (by omega), show i = l.length from by omega, upto_end]
 | d + 1, i, k, hi, hk => by
  obtain ⟨k, rfl⟩ := Nat.exists_eq_add_of_le' (show 1 ≤ k by omega)
  have hw : wrap64 ((i : Int) + 1) = ((i + 1 : Nat) : Int) := by rw [wrap64_id _ (by omega) (by omega)]; omega
  have ih := wp_l0 l hb hl d (i + 1) k (by omega) (by omega)
  unfold wire_Pack.l0
  rw [if_pos (by omega), if_pos (by omega), if_pos (by omega), hw]
  rcases bits_rd hb (i : Int) with h | h
  ·rw [if_pos h, ← upto_zero l _ i (by omega) h]
   exact ih
  ·rw [if_neg (by omega), if_pos h, tdiv8 i (by omega), tmod8, if_pos (by omega), if_pos (by rw [upto_len]; omega), if_pos (by omega), Int.toNat_natCast, upto_one l hb _ i (by omega) h]
   exact ih
theorem upto_nought (l : List Int) (n : Nat) : List.replicate n (0 : Int) = upto l n 0 := by
 unfold upto
 apply List.ext_getElem
 ·simp
 intro i h1 h2
 simp [part]
theorem pack_start (l : List Int) (hl : l.length ≤ 1000000000000) (k : Nat) : wire_Pack.f k l = wire_Pack.l0 k (upto l ((l.length + 7) / 8) 0) l (l.length : Int) 0 := by
 unfold wire_Pack.f
 have hw : wrap64 ((l.length : Int) + 7) = ((l.length + 7 : Nat) : Int) := by rw [wrap64_id _ (by omega) (by omega)]; omega
 rw [hw, tdiv8 _ (by omega), if_pos (by omega), if_pos (by omega), Int.toNat_natCast, upto_nought]
theorem pack_yes (l : List Int) (hb : Bits l) (hl : l.length ≤ 1000000000000) (k : Nat) (hk : l.length + 1 ≤ k) : wire_Pack.f k l = some (packs l, 0) := by
 rw [pack_start l hl]
 exact wp_l0 l hb hl l.length 0 k (by omega) hk
theorem and_step (x : Int) (m : Nat) (hm : m < 8) (h : 0 ≤ x ∧ x < 256) : Go.bits .and .i64 (wrap64 (shr .u8 x (m : Int))) 1 = x / 2 ^ m % 2 := by
 obtain ⟨q, rfl⟩ := Int.eq_ofNat_of_zero_le h.1
 exact and_bit ⟨m, hm⟩ ⟨q, by omega⟩
theorem unbits_len (b : List Int) (n : Nat) : (unbits b n).length = n := by simp [unbits]
theorem wu_l0 (b : List Int) (hb : Bytes b) (n : Nat) (hn : n ≤ 8 * b.length) (hl : b.length ≤ 1000000000000) : ∀ (d i k : Nat), i + d = n → d + 1 ≤ k →
 wire_Unpack.l0 k b ((unbits b n).take i ++ List.replicate (n - i) 0) (n : Int) (i : Int) = some (unbits b n, 0)
 | 0, i, k, hi, hk => by
  obtain ⟨k, rfl⟩ := Nat.exists_eq_add_of_le' (show 1 ≤ k by omega)
  unfold wire_Unpack.l0
  rw [if_neg (by omega), show n - i = 0 from by omega, List.replicate_zero, List.append_nil, List.take_of_length_le (by rw [unbits_len]; omega)]
 | d + 1, i, k, hi, hk => by
  obtain ⟨k, rfl⟩ := Nat.exists_eq_add_of_le' (show 1 ≤ k by omega)
  have hw : wrap64 ((i : Int) + 1) = ((i + 1 : Nat) : Int) := by rw [wrap64_id _ (by omega) (by omega)]; omega
  have hlt : i < (unbits b n).length := by rw [unbits_len]; omega
  have ih := wu_l0 b hb n hn hl d (i + 1) k (by omega) (by omega)
  have hset : ((unbits b n).take i ++ List.replicate (n - i) 0).set i (bitOf b i) = (unbits b n).take (i + 1) ++ List.replicate (n - (i + 1)) 0 := by
   rw [List.set_append_right _ _ (by rw [List.length_take, unbits_len]; omega), show i - ((unbits b n).take i).length = 0 from by rw [List.length_take, unbits_len]; omega, show n - i = (n - (i + 1)) + 1 from by omega, List.replicate_succ, List.set_cons_zero, List.take_succ_eq_append_getElem hlt, List.append_assoc]
   simp [unbits]
  unfold wire_Unpack.l0
  rw [if_pos (by omega), tdiv8 i (by omega), tmod8, if_pos (by omega), if_pos (by omega), if_pos (by omega), if_pos (by omega), if_pos (by rw [List.length_append, List.length_take, unbits_len, List.length_replicate]; omega), hw, and_step _ _ (by omega) (bytes_rd hb _), Int.toNat_natCast]
  show wire_Unpack.l0 k b (List.set _ i (bitOf b i)) _ _ = _
  rw [hset]
  exact ih
theorem unpack_yes (b : List Int) (hb : Bytes b) (n : Nat) (hn : n ≤ 8 * b.length) (hl : b.length ≤ 1000000000000) (k : Nat) (hk : n + 1 ≤ k) : wire_Unpack.f k b (n : Int) = some (unbits b n, 0) := by
 unfold wire_Unpack.f
 rw [wrap64_id (8 * (b.length : Int)) (by omega) (by omega), if_neg (by omega), if_neg (by omega), if_pos (by omega), if_pos (by omega), Option.bind_some, Int.toNat_natCast, List.length_replicate]
 have := wu_l0 b hb n hn hl n 0 k (by omega) hk
 rw [List.take_zero, List.nil_append] at this
 exact this
end Go.Proofs.Ytlalpooiegganaa.MathP
end

section
namespace Go.Proofs.Ytlalpooiegganaa.Mth
open Go.RowKit Go.Proofs.YtlalpooiegganaaW.PrintWords Go.Proofs.YtlalpooiegganaaW.PrintLast Go.Proofs.YtlalpooiegganaaW.PrintMore Go.Proofs.Ytlalpooiegganaa.Ext Go.Proofs.Ytlalpooiegganaa.ExtF Go.Proofs.Ytlalpooiegganaa.PP Go.Proofs.Ytlalpooiegganaa.PG Go.Proofs.Ytlalpooiegganaa.ExtM Go.Proofs.Ytlalpooiegganaa.MathP Go.Proofs.Ytlalpooiegganaa.PG
set_option linter.unusedVariables false
set_option linter.unusedSimpArgs false
theorem within_f (a lo hi : Int) : pdu_within.f a lo hi = some (decide (lo ≤ a ∧ a ≤ hi)) := by
 unfold pdu_within.f
 by_cases h : a ≥ lo
 ·rw [if_pos h]; exact congrArg some (decide_eq_decide.2 (by omega))
 ·rw [if_neg h]; exact congrArg some (decide_eq_false (by omega)).symm
def Low (m : Int) (l : List Int) : Prop := ∀ x ∈ l, 0 ≤ x ∧ x ≤ m
instance (m : Int) (l : List Int) : Decidable (Low m l) := by unfold Low; infer_instance
theorem all_l0 (l : List Int) (m : Int) (hl : l.length ≤ 1000000000000) : ∀ (d i k : Nat), i + d = l.length → d + 1 ≤ k → pdu_all.l0 k m l (l.length : Int) (i : Int) = some (decide (Low m (l.drop i)))
 | 0, i, k, hi, hk => by
  obtain ⟨k, rfl⟩ := Nat.exists_eq_add_of_le' (show 1 ≤ k by omega)
  unfold pdu_all.l0
  rw [if_neg (by omega), List.drop_of_length_le (by omega)]
  exact congrArg some (decide_eq_true (fun x hx => by cases hx)).symm
 | d + 1, i, k, hi, hk => by
  obtain ⟨k, rfl⟩ := Nat.exists_eq_add_of_le' (show 1 ≤ k by omega)
  have hw : wrap64 ((i : Int) + 1) = ((i + 1 : Nat) : Int) := by rw [wrap64_id _ (by omega) (by omega)]; omega
  have hlt : i < l.length := by omega
  have hrd : rd l (i : Int) = l[i] := by simp [rd, List.getElem?_eq_getElem hlt]
  have hcons : l.drop i = l[i] :: l.drop (i + 1) := List.drop_eq_getElem_cons hlt
  unfold pdu_all.l0
  rw [if_pos (by omega), if_pos (by omega), if_pos (by omega), hw, within_f, Option.bind_some, hrd, hcons]
  have e : Low m (l[i] :: l.drop (i + 1)) ↔ (0 ≤ l[i] ∧ l[i] ≤ m) ∧ Low m (l.drop (i + 1)) := List.forall_mem_cons
  by_cases h : 0 ≤ l[i] ∧ l[i] ≤ m
  ·rw [if_pos (by rw [decide_eq_true_eq]; exact h), all_l0 l m hl d (i + 1) k (by omega) (by omega)]
   congr 1; rw [decide_eq_decide, e]; exact ⟨fun x => ⟨h, x⟩, fun x => x.2⟩
  ·rw [if_neg (by rw [decide_eq_true_eq]; exact h)]
   congr 1; rw [eq_comm, decide_eq_false_iff_not, e]; exact fun x => h x.1
theorem all_f (l : List Int) (m : Int) (hl : l.length ≤ 1000000000000) (k : Nat) (hk : l.length + 1 ≤ k) : pdu_all.f k l m = some (decide (Low m l)) := by
 have := all_l0 l m hl l.length 0 k (by omega) (by omega)
 unfold pdu_all.f
 rw [List.drop_zero] at this
 exact this
theorem low_one (l : List Int) : Low 1 l ↔ Bits l := by
 unfold Low Bits
 exact ⟨fun h x hx => by have := h x hx; omega, fun h x hx => by have := h x hx; omega⟩
theorem beq_dec (a b : Int) : (a == b) = decide (a = b) := by rw [Bool.eq_iff_iff]; simp
theorem check_f (k : Nat) (fn a1 a2 : Int) (l : List Int) (a4 a5 a6 : Int) (hl : l.length ≤ 1000000000000) (hk : l.length + 10 ≤ k) :
 pdu_Check.f fn a1 a2 l a4 a5 a6 = some (if mayB fn a1 a2 l a4 a5 a6 then 0 else 1) := rfl
end Go.Proofs.Ytlalpooiegganaa.Mth
end

section
namespace Go.Proofs.Ytlalpooiegganaa.Mth
open Go.RowKit Go.Proofs.YtlalpooiegganaaW.PrintWords Go.Proofs.YtlalpooiegganaaW.PrintLast Go.Proofs.YtlalpooiegganaaW.PrintMore Go.Proofs.Ytlalpooiegganaa.Ext Go.Proofs.Ytlalpooiegganaa.ExtF Go.Proofs.Ytlalpooiegganaa.PP Go.Proofs.Ytlalpooiegganaa.PG Go.Proofs.Ytlalpooiegganaa.ExtM Go.Proofs.Ytlalpooiegganaa.MathP Go.Proofs.Ytlalpooiegganaa.PG
set_option linter.unusedVariables false
set_option linter.unusedSimpArgs false
def tailB (fn a2 : Int) (l : List Int) (a4 a5 a6 : Int) : List Int :=
 if fn = 5 then lays [65280 * rd l 0]
 else if fn = 6 then lays [rd l 0]
 else if fn = 22 then lays [a5, a6]
 else if fn = 15 then lays [a2] ++ (((packs l).length : Int) % 256 :: packs l)
 else if fn = 23 then lays [a2, a4, (l.length : Int)] ++ (((lays l).length : Int) % 256 :: lays l)
 else if fn = 16 then lays [a2] ++ (((lays l).length : Int) % 256 :: lays l)
 else lays [a2]
def reqB (fn a1 a2 : Int) (l : List Int) (a4 a5 a6 : Int) : List Int := ([fn % 256] ++ lays [a1]) ++ tailB fn a2 l a4 a5 a6
theorem lay_f (l m : List Int) (h : m ≠ []) (hw : Words m) (h0 : l.length ≤ 100000000) (h1 : m.length ≤ 100000000) : pdu_lay.f l m = some (l ++ lays m) := by
 unfold pdu_lay.f
 rw [if_pos ⟨h, hw, h0, h1⟩]
theorem words1 {a : Int} (h : 0 ≤ a ∧ a ≤ 65535) : Words [a] := by intro x hx; simp only [List.mem_singleton] at hx; subst hx; exact h
theorem words2 {a b : Int} (h : 0 ≤ a ∧ a ≤ 65535) (h2 : 0 ≤ b ∧ b ≤ 65535) : Words [a, b] := by
 intro x hx; simp only [List.mem_cons, List.not_mem_nil, or_false] at hx; rcases hx with rfl | rfl <;> assumption
theorem words3 {a b c : Int} (h : 0 ≤ a ∧ a ≤ 65535) (h2 : 0 ≤ b ∧ b ≤ 65535) (h3 : 0 ≤ c ∧ c ≤ 65535) : Words [a, b, c] := by
 intro x hx; simp only [List.mem_cons, List.not_mem_nil, or_false] at hx; rcases hx with rfl | rfl | rfl <;> assumption
theorem pcounted_f (l m : List Int) (h0 : l.length ≤ 100000000) (h1 : m.length ≤ 100000000) : PG.pdu_counted.f l m = some (l ++ ((m.length : Int) % 256 :: m)) := by
 unfold PG.pdu_counted.f
 rw [if_pos (by omega), Option.bind_some, if_pos (by simp; omega)]
 simp
theorem packs_len (l : List Int) : (packs l).length = (l.length + 7) / 8 := by simp [packs]
theorem ppacked_f (l : List Int) (hb : Bits l) (hl : l.length ≤ 1000000000000) (k : Nat) (hk : l.length + 1 ≤ k) : pdu_packed.f k l = some (packs l) := by
 unfold pdu_packed.f
 rw [pack_yes l hb hl k hk, Option.bind_some]
structure MayIs (fn a1 a2 : Int) (l : List Int) (a4 a5 a6 : Int) : Prop where
 addr : 0 ≤ a1 ∧ a1 ≤ 65535
 fns : fn = 1 ∨ fn = 2 ∨ fn = 3 ∨ fn = 4 ∨ fn = 5 ∨ fn = 6 ∨ fn = 15 ∨ fn = 16 ∨ fn = 22 ∨ fn = 23
 len : l.length ≤ 1968
 nov : fn = 1 ∨ fn = 2 ∨ fn = 3 ∨ fn = 4 ∨ fn = 22 → l = []
 cnt : fn = 1 ∨ fn = 2 ∨ fn = 3 ∨ fn = 4 ∨ fn = 23 → 1 ≤ a2 ∧ a2 ≤ 2000
 regs : fn = 3 ∨ fn = 4 ∨ fn = 23 → a2 ≤ 125
 cnt0 : fn = 5 ∨ fn = 6 ∨ fn = 22 → a2 = 0
 cntl : fn = 15 ∨ fn = 16 → a2 = (l.length : Int)
 one : fn = 5 ∨ fn = 6 → l.length = 1
 bits : fn = 5 ∨ fn = 15 → Bits l
 wrds : fn = 6 ∨ fn = 16 ∨ fn = 23 → Words l
 many : fn = 15 ∨ fn = 16 ∨ fn = 23 → 1 ≤ l.length
 most : fn = 16 ∨ fn = 23 → l.length ≤ 123
 to0 : fn ≠ 23 → a4 = 0
 tow : 0 ≤ a4 ∧ a4 ≤ 65535
 m0 : fn ≠ 22 → a5 = 0 ∧ a6 = 0
 m : (0 ≤ a5 ∧ a5 ≤ 65535) ∧ (0 ≤ a6 ∧ a6 ≤ 65535)
theorem valB_true {bit : Bool} {l : List Int} {lo hi : Nat} (h : valB bit l lo hi = true) : (lo ≤ l.length ∧ l.length ≤ hi) ∧ (bit = true → Bits l) ∧ (bit = false → Words l) := by
 unfold valB at h
 rw [Bool.and_eq_true, decide_eq_true_eq] at h
 refine ⟨h.1, fun e => ?_, fun e => ?_⟩ <;> (subst e; simpa using h.2)
theorem may_is {fn a1 a2 : Int} {l : List Int} {a4 a5 a6 : Int} (h : mayB fn a1 a2 l a4 a5 a6 = true) : MayIs fn a1 a2 l a4 a5 a6 := by
 unfold mayB at h
 split at h
 ·next c =>
  simp only [Bool.and_eq_true, beq_iff_eq, decide_eq_true_eq, spanB] at h
  obtain ⟨⟨⟨⟨⟨hn, h5, h6⟩, h4⟩, h1⟩, h2⟩, h3⟩ := h
  obtain rfl : l = [] := List.length_eq_zero_iff.1 (by omega)
  exact ⟨by omega, by omega, by simp, fun _ => rfl, fun _ => by omega, fun _ => by omega, fun _ => by omega, fun _ => by omega, fun _ => by omega, fun _ _ hx => (List.not_mem_nil hx).elim, fun _ _ hx => (List.not_mem_nil hx).elim, fun _ => by omega, fun _ => by simp, fun _ => h4, by omega, fun _ => ⟨h5, h6⟩, by omega⟩
 split at h
 ·next c0 c =>
  simp only [Bool.and_eq_true, beq_iff_eq, decide_eq_true_eq, spanB] at h
  obtain ⟨⟨⟨⟨⟨hn, h5, h6⟩, h4⟩, h1⟩, h2⟩, h3⟩ := h
  obtain rfl : l = [] := List.length_eq_zero_iff.1 (by omega)
  exact ⟨by omega, by omega, by simp, fun _ => rfl, fun _ => by omega, fun _ => by omega, fun _ => by omega, fun _ => by omega, fun _ => by omega, fun _ _ hx => (List.not_mem_nil hx).elim, fun _ _ hx => (List.not_mem_nil hx).elim, fun _ => by omega, fun _ => by simp, fun _ => h4, by omega, fun _ => ⟨h5, h6⟩, by omega⟩
 split at h
 ·next c0 c1 c =>
  simp only [Bool.and_eq_true, beq_iff_eq, decide_eq_true_eq, spanB] at h
  obtain ⟨⟨⟨⟨⟨h5, h6⟩, h4⟩, h2⟩, hv⟩, h3⟩ := h
  obtain ⟨hl, hb, _⟩ := valB_true hv
  exact ⟨by omega, by omega, by omega, fun _ => by omega, fun _ => by omega, fun _ => by omega, fun _ => by omega, fun _ => by omega, fun _ => by omega, fun _ => hb rfl, fun _ => by omega, fun _ => by omega, fun _ => by omega, fun _ => h4, by omega, fun _ => ⟨h5, h6⟩, by omega⟩
 split at h
 ·next c0 c1 c2 c =>
  simp only [Bool.and_eq_true, beq_iff_eq, decide_eq_true_eq, spanB] at h
  obtain ⟨⟨⟨⟨⟨h5, h6⟩, h4⟩, h2⟩, hv⟩, h3⟩ := h
  obtain ⟨hl, _, hb⟩ := valB_true hv
  exact ⟨by omega, by omega, by omega, fun _ => by omega, fun _ => by omega, fun _ => by omega, fun _ => by omega, fun _ => by omega, fun _ => by omega, fun _ => by omega, fun _ => hb rfl, fun _ => by omega, fun _ => by omega, fun _ => h4, by omega, fun _ => ⟨h5, h6⟩, by omega⟩
 split at h
 ·next c0 c1 c2 c3 c =>
  simp only [Bool.and_eq_true, beq_iff_eq, decide_eq_true_eq, spanB] at h
  obtain ⟨⟨⟨⟨⟨h5, h6⟩, h4⟩, h2⟩, hv⟩, h3⟩ := h
  obtain ⟨hl, hb, _⟩ := valB_true hv
  exact ⟨by omega, by omega, by omega, fun _ => by omega, fun _ => by omega, fun _ => by omega, fun _ => by omega, fun _ => h2, fun _ => by omega, fun _ => hb rfl, fun _ => by omega, fun _ => by omega, fun _ => by omega, fun _ => h4, by omega, fun _ => ⟨h5, h6⟩, by omega⟩
 split at h
 ·next c0 c1 c2 c3 c4 c =>
  simp only [Bool.and_eq_true, beq_iff_eq, decide_eq_true_eq, spanB] at h
  obtain ⟨⟨⟨⟨⟨h5, h6⟩, h4⟩, h2⟩, hv⟩, h3⟩ := h
  obtain ⟨hl, _, hb⟩ := valB_true hv
  exact ⟨by omega, by omega, by omega, fun _ => by omega, fun _ => by omega, fun _ => by omega, fun _ => by omega, fun _ => h2, fun _ => by omega, fun _ => by omega, fun _ => hb rfl, fun _ => by omega, fun _ => by omega, fun _ => h4, by omega, fun _ => ⟨h5, h6⟩, by omega⟩
 split at h
 ·next c0 c1 c2 c3 c4 c5 c =>
  simp only [Bool.and_eq_true, beq_iff_eq, decide_eq_true_eq, spanB, isB] at h
  obtain ⟨⟨⟨⟨⟨hn, h4⟩, h2⟩, h3⟩, h5⟩, h6⟩ := h
  obtain rfl : l = [] := List.length_eq_zero_iff.1 (by omega)
  exact ⟨by omega, by omega, by simp, fun _ => rfl, fun _ => by omega, fun _ => by omega, fun _ => by omega, fun _ => by omega, fun _ => by omega, fun _ _ hx => (List.not_mem_nil hx).elim, fun _ _ hx => (List.not_mem_nil hx).elim, fun _ => by omega, fun _ => by simp, fun _ => h4, by omega, fun _ => by omega, by omega⟩
 split at h
 ·next c0 c1 c2 c3 c4 c5 c6 c =>
  simp only [Bool.and_eq_true, beq_iff_eq, decide_eq_true_eq, spanB, isB] at h
  obtain ⟨⟨⟨⟨⟨⟨h5, h6⟩, h1⟩, h2⟩, h3⟩, hv⟩, h7⟩ := h
  obtain ⟨hl, _, hb⟩ := valB_true hv
  exact ⟨by omega, by omega, by omega, fun _ => by omega, fun _ => by omega, fun _ => by omega, fun _ => by omega, fun _ => by omega, fun _ => by omega, fun _ => by omega, fun _ => hb rfl, fun _ => by omega, fun _ => by omega, fun _ => by omega, by omega, fun _ => ⟨h5, h6⟩, by omega⟩
 ·cases h
theorem bytes_yes (k : Nat) (fn a1 a2 : Int) (l : List Int) (a4 a5 a6 : Int) (hk : 3000 ≤ k) (h : mayB fn a1 a2 l a4 a5 a6 = true) (hf : fn = 5 ∨ fn = 6 ∨ fn = 22) :
 pdu_Bytes.f k fn a1 a2 l a4 a5 a6 = some (reqB fn a1 a2 l a4 a5 a6, 0) := by
 have I := may_is h
 have hlen := I.len
 unfold pdu_Bytes.f
 rw [check_f k fn a1 a2 l a4 a5 a6 (by omega) (by omega), h, Option.bind_some, if_pos (by decide), lay_f _ [a1] (by simp) (words1 I.addr) (by simp) (by simp), Option.bind_some]
 unfold reqB
 have hl2 : ([fn % 256] ++ lays [a1]).length ≤ 100 := by simp [lays_len]
 generalize ([fn % 256] ++ lays [a1]) = p at *
 unfold tailB
 by_cases c5 : fn = 5
 ·have h1 := I.one (Or.inl c5)
  have hb := bits_rd (I.bits (Or.inl c5)) 0
  have hw : wrap64 (65280 * rd l 0) = 65280 * rd l 0 := wrap64_id _ (by omega) (by omega)
  rw [if_pos c5, if_pos c5, if_pos (by omega), hw, lay_f _ _ (by simp) (words1 (by omega)) (by omega) (by simp), Option.bind_some]
 rw [if_neg c5, if_neg c5]
 by_cases c6 : fn = 6
 ·have h1 := I.one (Or.inr c6)
  have hb : 0 ≤ rd l 0 ∧ rd l 0 ≤ 65535 := by
   have hlt : 0 < l.length := by omega
   have hrd : rd l 0 = l[0] := by simp [rd, List.getElem?_eq_getElem hlt]
   rw [hrd]; exact I.wrds (Or.inl c6) _ (List.getElem_mem hlt)
  rw [if_pos c6, if_pos c6, if_pos (by omega), lay_f _ _ (by simp) (words1 hb) (by omega) (by simp), Option.bind_some]
 rw [if_neg c6, if_neg c6]
 by_cases c22 : fn = 22
 ·rw [if_pos c22, if_pos c22, lay_f _ _ (by simp) (words2 I.m.1 I.m.2) (by omega) (by simp), Option.bind_some]
 omega
theorem rword_f (a : Int) (h : 0 ≤ a ∧ a ≤ 65535) : basculeref01_Word.f a = some [a / 256, a % 256] := by
 unfold basculeref01_Word.f
 rw [Int.tdiv_eq_ediv_of_nonneg (by omega), Int.tmod_eq_emod_of_nonneg (by omega), wrap64_id _ (by omega) (by omega), show a / 256 % 256 = a / 256 from by omega, show a % 256 % 256 = a % 256 from by omega]
theorem rlay_l0 (l : List Int) (hw : Words l) (hl : l.length ≤ 1000000000) : ∀ (d i k : Nat), i + d = l.length → d + 1 ≤ k → basculeref03_lay.l0 k l (lays (l.take i)) (i : Int) = some (lays l)
 | 0, i, k, hi, hk => by
  obtain ⟨k, rfl⟩ := Nat.exists_eq_add_of_le' (show 1 ≤ k by omega)
  unfold basculeref03_lay.l0
  rw [if_neg (by omega), List.take_of_length_le (by omega)]
 | d + 1, i, k, hi, hk => by
  obtain ⟨k, rfl⟩ := Nat.exists_eq_add_of_le' (show 1 ≤ k by omega)
  have hwr : wrap64 ((i : Int) + 1) = ((i + 1 : Nat) : Int) := by rw [wrap64_id _ (by omega) (by omega)]; omega
  have hlt : i < l.length := by omega
  have hrd : rd l (i : Int) = l[i] := by simp [rd, List.getElem?_eq_getElem hlt]
  unfold basculeref03_lay.l0
  rw [if_pos (by omega), if_pos (by omega), hrd, rword_f _ (hw _ (List.getElem_mem hlt)), Option.bind_some, if_pos (by rw [lays_len, List.length_take]; simp; omega), hwr, ← lays_snoc, ← List.take_succ_eq_append_getElem hlt]
  exact rlay_l0 l hw hl d (i + 1) k (by omega) (by omega)
theorem rlay_f (l : List Int) (hw : Words l) (hl : l.length ≤ 1000000000) (k : Nat) (hk : l.length + 1 ≤ k) : basculeref03_lay.f k l = some (lays l) := by
 unfold basculeref03_lay.f
 exact rlay_l0 l hw hl l.length 0 k (by omega) (by omega)
theorem both_f (l m : List Int) (h0 : l.length ≤ 100000000) (h1 : m.length ≤ 100000000) : basculeref01_Both.f l m = some (l ++ m) := by
 unfold basculeref01_Both.f
 rw [if_pos (by simp; omega), Option.bind_some, if_pos (by simp; omega)]
 rfl
theorem rcounted_f (m : List Int) (h1 : m.length ≤ 100000000) : basculeref03_counted.f m = some ((m.length : Int) % 256 :: m) := by
 unfold basculeref03_counted.f
 rw [both_f _ _ (by simp) h1, Option.bind_some]
 rfl
theorem rbytes_yes (k : Nat) (fn a1 a2 : Int) (l : List Int) (a4 a5 a6 : Int) (hk : 10000 ≤ k) (h : mayB fn a1 a2 l a4 a5 a6 = true) (hf : fn = 5 ∨ fn = 6 ∨ fn = 22) :
 basculeref03_Bytes.f k fn a1 a2 l a4 a5 a6 = some (reqB fn a1 a2 l a4 a5 a6) := by
 have I := may_is h
 have hlen := I.len
 have hfn := I.fns
 have ha := I.addr
 obtain ⟨k, rfl⟩ : ∃ m, k = m + 1 := ⟨k - 1, by omega⟩
 have e : basculeref03_Bytes.f (k + 1) fn a1 a2 l a4 a5 a6 = basculeref03_Bytes.j0 (k + 1) [fn % 256] fn (decide (fn = 1 ∨ fn = 2 ∨ fn = 3 ∨ fn = 4)) fn a1 a2 l a4 a5 a6 := by
  unfold basculeref03_Bytes.f
  rw [Option.bind_some]
  by_cases c1 : fn = 1
  ·subst c1; rfl
  by_cases c2 : fn = 2
  ·subst c2; rfl
  by_cases c3 : fn = 3
  ·subst c3; rfl
  rw [if_neg c1, if_neg c2, if_neg c3]
  congr 1
  rw [beq_dec, decide_eq_decide]
  omega
 rw [e]
 rw [basculeref03_Bytes.j0]
 unfold reqB
 have hl2 : (lays [a1]).length = 2 := by simp [lays_len]
 have happ : ∀ x m, lays (x :: m) = lays [x] ++ lays m := fun x m => by simp [lays]
 unfold tailB
 have cr : ¬ (fn = 1 ∨ fn = 2 ∨ fn = 3 ∨ fn = 4) := by omega
 rw [if_neg (by rw [decide_eq_true_eq]; exact cr)]
 by_cases c5 : fn = 5
 ·have h1 := I.one (Or.inl c5)
  have hb := bits_rd (I.bits (Or.inl c5)) 0
  have hw : wrap64 (65280 * rd l 0) = 65280 * rd l 0 := wrap64_id _ (by omega) (by omega)
  rw [if_pos c5, if_pos c5, if_pos (by omega), hw, rlay_f _ (words2 ha (by omega)) (by simp) k (by simp; omega), Option.bind_some, if_pos (by simp [lays_len]), happ a1 [_], List.append_assoc]
 rw [if_neg c5, if_neg c5]
 by_cases c6 : fn = 6
 ·have h1 := I.one (Or.inr c6)
  have hb : 0 ≤ rd l 0 ∧ rd l 0 ≤ 65535 := by
   have hlt : 0 < l.length := by omega
   have hrd : rd l 0 = l[0] := by simp [rd, List.getElem?_eq_getElem hlt]
   rw [hrd]; exact I.wrds (Or.inl c6) _ (List.getElem_mem hlt)
  rw [if_pos c6, if_pos c6, if_pos (by omega), rlay_f _ (words2 ha hb) (by simp) k (by simp; omega), Option.bind_some, if_pos (by simp [lays_len]), happ a1 [_], List.append_assoc]
 rw [if_neg c6, if_neg c6]
 have c15 : ¬ fn = 15 := by omega
 have c16 : ¬ fn = 16 := by omega
 rw [if_neg c15, if_neg c15, if_neg c16, if_neg c16]
 by_cases c22 : fn = 22
 ·rw [if_pos c22, if_pos c22, rlay_f _ (words3 ha I.m.1 I.m.2) (by simp) k (by simp; omega), Option.bind_some, if_pos (by simp [lays_len]), happ a1 [a5, a6], List.append_assoc]
 omega
end Go.Proofs.Ytlalpooiegganaa.Mth
end

section
namespace Go.Proofs.Ytlalpooiegganaa.Mth
open Go.RowKit Go.Proofs.YtlalpooiegganaaW.PrintWords Go.Proofs.YtlalpooiegganaaW.PrintLast Go.Proofs.YtlalpooiegganaaW.PrintMore Go.Proofs.Ytlalpooiegganaa.Ext Go.Proofs.Ytlalpooiegganaa.ExtF Go.Proofs.Ytlalpooiegganaa.PP Go.Proofs.Ytlalpooiegganaa.PG Go.Proofs.Ytlalpooiegganaa.ExtM Go.Proofs.Ytlalpooiegganaa.MathP Go.Proofs.Ytlalpooiegganaa.PG
set_option linter.unusedVariables false
set_option linter.unusedSimpArgs false
theorem join_bytes (x y : Int) (hx : 0 ≤ x ∧ x < 256) (hy : 0 ≤ y ∧ y < 256) : Go.bits .or .i64 (wrap64 ((wrap64 x) * 256)) (wrap64 y) = 256 * x + y := by
 rw [wrap64_id x (by omega) (by omega), wrap64_id y (by omega) (by omega), wrap64_id (x * 256) (by omega) (by omega)]
 obtain ⟨m, rfl⟩ := Int.eq_ofNat_of_zero_le hx.1
 obtain ⟨n, rfl⟩ := Int.eq_ofNat_of_zero_le hy.1
 exact (show ∀ m n : Fin 256, Go.bits .or .i64 ((m.1 : Int) * 256) (n.1 : Int) = 256 * (m.1 : Int) + (n.1 : Int) by decide +kernel) ⟨m, by omega⟩ ⟨n, by omega⟩
theorem bytes_drop {l : List Int} (hb : Bytes l) (n : Nat) : Bytes (l.drop n) := fun x hx => hb x (List.mem_of_mem_drop hx)
theorem at_f (l : List Int) (hb : Bytes l) (hl : l.length ≤ 1000000000) (i : Nat) (h : i + 1 < l.length) : wire_At.f l (i : Int) = some (256 * rd l (i : Int) + rd l ((i + 1 : Nat) : Int), 0) := by
 unfold wire_At.f
 have hw : wrap64 ((i : Int) + 1) = ((i + 1 : Nat) : Int) := by rw [wrap64_id _ (by omega) (by omega)]; omega
 rw [if_neg (by omega), wrap64_id ((l.length : Int) - 2) (by omega) (by omega), if_neg (by omega), if_pos (by omega), if_pos (by omega), hw, if_pos (by omega), if_pos (by omega), join_bytes _ _ (bytes_rd hb _) (bytes_rd hb _)]
def wordsOf (l : List Int) : List Int := (List.range (l.length / 2)).map fun j => 256 * rd l ((2 * j : Nat) : Int) + rd l ((2 * j + 1 : Nat) : Int)
theorem wordsOf_len (l : List Int) : (wordsOf l).length = l.length / 2 := by simp [wordsOf]
theorem pwords_l0 (l : List Int) (hb : Bytes l) (hl : l.length ≤ 1000000000) : ∀ (d j k : Nat), j + d = l.length / 2 → d + 1 ≤ k →
 pdu_words.l0 k l ((List.range j).map fun j => 256 * rd l ((2 * j : Nat) : Int) + rd l ((2 * j + 1 : Nat) : Int)) ((2 * j : Nat) : Int) = some (wordsOf l)
 | 0, j, k, hj, hk => by
  obtain ⟨k, rfl⟩ := Nat.exists_eq_add_of_le' (show 1 ≤ k by omega)
  unfold pdu_words.l0
  rw [wrap64_id _ (by omega) (by omega), if_neg (by omega)]
  unfold wordsOf
  rw [← hj, Nat.add_zero]
 | d + 1, j, k, hj, hk => by
  obtain ⟨k, rfl⟩ := Nat.exists_eq_add_of_le' (show 1 ≤ k by omega)
  unfold pdu_words.l0
  have hw : wrap64 (((2 * j : Nat) : Int) + 2) = ((2 * (j + 1) : Nat) : Int) := by rw [wrap64_id _ (by omega) (by omega)]; omega
  rw [wrap64_id _ (by omega) (by omega), if_pos (by omega), at_f l hb hl (2 * j) (by omega), Option.bind_some, if_pos (by simp; omega), hw]
  have := pwords_l0 l hb hl d (j + 1) k (by omega) (by omega)
  rw [List.range_succ, List.map_append] at this
  exact this
theorem pwords_f (l : List Int) (hb : Bytes l) (hl : l.length ≤ 1000000000) (k : Nat) (hk : l.length + 1 ≤ k) : pdu_words.f k l = some (wordsOf l) := by
 unfold pdu_words.f
 exact pwords_l0 l hb hl (l.length / 2) 0 k (by omega) (by omega)
theorem str_one {l m : List Int} (hl : Bytes l) (hm : Bytes m) (h2 : l.map (fun n => UInt8.ofNat n.toNat) = m.map (fun n => UInt8.ofNat n.toNat)) : l = m := by
 have back : ∀ {x : List Int}, Bytes x → (x.map (fun n => UInt8.ofNat n.toNat)).map (fun b => (b.toNat : Int)) = x := by
  intro x hx
  rw [List.map_map]
  conv => rhs; rw [← List.map_id x]
  apply List.map_congr_left
  intro n hn
  have := hx n hn
  simp only [Function.comp, id]
  rw [UInt8.toNat_ofNat']
  omega
 rw [← back hl, ← back hm, h2]
theorem str_eq {l m : List Int} (hl : Bytes l) (hm : Bytes m) : ((strOfNums l).toList = (strOfNums m).toList) ↔ l = m := by
 constructor
 ·intro h
  rw [ByteArray.toList_eq, ByteArray.toList_eq, strOfNums_data, strOfNums_data] at h
  exact str_one hl hm h
 ·intro h; rw [h]
theorem str_beq {l m : List Int} (hl : Bytes l) (hm : Bytes m) : ((strOfNums l).toList == (strOfNums m).toList) = decide (l = m) := by
 rw [Bool.eq_iff_iff]
 simp only [beq_iff_eq, decide_eq_true_eq]
 exact str_eq hl hm
theorem lays_bytes {l : List Int} (hw : Words l) : Bytes (lays l) := by
 intro x hx
 unfold lays at hx
 obtain ⟨n, hn, hx⟩ := List.mem_flatMap.1 hx
 have := hw n hn
 simp only [List.mem_cons, List.not_mem_nil, or_false] at hx
 rcases hx with rfl | rfl <;> omega
theorem bytes_app {a b : List Int} (ha : Bytes a) (hb : Bytes b) : Bytes (a ++ b) := by
 intro x hx
 rcases List.mem_append.1 hx with h | h
 ·exact ha x h
 ·exact hb x h
theorem bytes_cons {a : Int} {b : List Int} (ha : 0 ≤ a ∧ a < 256) (hb : Bytes b) : Bytes (a :: b) := by
 intro x hx
 rcases List.mem_cons.1 hx with rfl | h
 ·exact ha
 ·exact hb x h
theorem bytes_nil : Bytes [] := by intro x hx; cases hx
theorem packs_bytes {l : List Int} (hb : Bits l) : Bytes (packs l) := by
 intro x hx
 unfold packs at hx
 obtain ⟨j, _, rfl⟩ := List.mem_map.1 hx
 have := part_range hb (8 * j) 8
 omega
theorem counted_bytes {l : List Int} (hb : Bytes l) : Bytes ((l.length : Int) % 256 :: l) := bytes_cons (by omega) hb
theorem reqB_bytes {fn a1 a2 : Int} {l : List Int} {a4 a5 a6 : Int} (I : MayIs fn a1 a2 l a4 a5 a6) : Bytes (reqB fn a1 a2 l a4 a5 a6) := by
 have hlen := I.len
 have ha2 : (¬ (fn = 5 ∨ fn = 6 ∨ fn = 22)) → 0 ≤ a2 ∧ a2 ≤ 65535 := by
  intro h
  have := I.fns
  by_cases c : fn = 15 ∨ fn = 16
  ·have := I.cntl c; omega
  ·have := I.cnt (by omega); omega
 unfold reqB
 refine bytes_app (bytes_app (bytes_cons (by omega) bytes_nil) (lays_bytes (words1 I.addr))) ?_
 unfold tailB
 split
 ·next c =>
  have hb := bits_rd (I.bits (Or.inl c)) 0
  exact lays_bytes (words1 (by omega))
 split
 ·next c =>
  have h1 := I.one (Or.inr c)
  have hlt : 0 < l.length := by omega
  have hrd : rd l 0 = l[0] := by simp [rd, List.getElem?_eq_getElem hlt]
  exact lays_bytes (words1 (by rw [hrd]; exact I.wrds (Or.inl c) _ (List.getElem_mem hlt)))
 split
 ·exact lays_bytes (words2 I.m.1 I.m.2)
 split
 ·next c => exact bytes_app (lays_bytes (words1 (ha2 (by omega)))) (counted_bytes (packs_bytes (I.bits (Or.inr c))))
 split
 ·next c => exact bytes_app (lays_bytes (words3 (ha2 (by omega)) I.tow (by omega))) (counted_bytes (lays_bytes (I.wrds (by omega))))
 split
 ·next c => exact bytes_app (lays_bytes (words1 (ha2 (by omega)))) (counted_bytes (lays_bytes (I.wrds (by omega))))
 ·exact lays_bytes (words1 (ha2 (by omega)))
theorem reqB_len {fn a1 a2 : Int} {l : List Int} {a4 a5 a6 : Int} (I : MayIs fn a1 a2 l a4 a5 a6) : (reqB fn a1 a2 l a4 a5 a6).length =
 if fn = 15 then 6 + (l.length + 7) / 8 else if fn = 16 then 6 + 2 * l.length else if fn = 22 then 7 else if fn = 23 then 10 + 2 * l.length else 5 := by
 have hfn := I.fns
 unfold reqB tailB
 rcases hfn with rfl | rfl | rfl | rfl | rfl | rfl | rfl | rfl | rfl | rfl <;> simp [lays_len, packs_len] <;> omega
def ansMayB (fn a2 : Int) (al : List Int) (code : Int) : Bool :=
 if code = 0 then
  (if fn = 1 ∨ fn = 2 then decide ((al.length : Int) = a2) && decide (Bits al)
   else if fn = 3 ∨ fn = 4 ∨ fn = 23 then decide ((al.length : Int) = a2) && decide (Words al)
   else decide ((al.length : Int) = 0))
 else decide (1 ≤ code ∧ code ≤ 255) && decide ((al.length : Int) = 0)
def ansB (fn a1 a2 : Int) (l : List Int) (a4 a5 a6 : Int) (al : List Int) (code : Int) : List Int :=
 if code = 0 then
  (if fn = 1 ∨ fn = 2 then fn % 256 :: ((packs al).length : Int) % 256 :: packs al
   else if fn = 3 ∨ fn = 4 ∨ fn = 23 then fn % 256 :: ((lays al).length : Int) % 256 :: lays al
   else if fn = 15 ∨ fn = 16 then fn % 256 :: lays [a1, a2]
   else reqB fn a1 a2 l a4 a5 a6)
 else [fn + 128, code]
theorem psome_f (l : List Int) (lo hi m : Int) (hl : l.length ≤ 1000000000000) (k : Nat) (hk : l.length + 1 ≤ k) : pdu_some.f k l lo hi m = some (decide (lo ≤ (l.length : Int) ∧ (l.length : Int) ≤ hi) && decide (Low m l)) := by
 unfold pdu_some.f
 rw [within_f, Option.bind_some]
 by_cases h : lo ≤ (l.length : Int) ∧ (l.length : Int) ≤ hi
 ·rw [decide_eq_true h, if_pos rfl, all_f l m hl k hk, Option.bind_some, Bool.true_and]
 ·rw [decide_eq_false h, if_neg (by decide), Bool.false_and]
theorem decide_same (a b : Int) : decide (b ≤ a ∧ a ≤ b) = decide (a = b) := by rw [decide_eq_decide]; omega
theorem pans_f (k : Nat) (fn a1 a2 : Int) (l : List Int) (a4 a5 a6 : Int) (al : List Int) (code : Int) (hl : al.length ≤ 1000000000000) (hk : al.length + 10 ≤ k) :
 pdu_answer.f k fn a1 a2 l a4 a5 a6 al code = some (ansMayB fn a2 al code) := by
 obtain ⟨k, rfl⟩ : ∃ m, k = m + 1 := ⟨k - 1, by omega⟩
 unfold pdu_answer.f ansMayB
 by_cases hc : code = 0
 ·rw [if_pos hc, if_pos hc]
  have hj : ∀ b, pdu_answer.j0 (k + 1) fn b fn a1 a2 l a4 a5 a6 al code = if b = true then some (decide ((al.length : Int) = a2) && decide (Bits al)) else if fn = 3 ∨ fn = 4 ∨ fn = 23 then some (decide ((al.length : Int) = a2) && decide (Words al)) else some (decide ((al.length : Int) = 0)) := by
   intro b
   rw [pdu_answer.j0]
   rw [psome_f al a2 a2 1 hl k (by omega), psome_f al a2 a2 65535 hl k (by omega)]
   simp only [Option.bind_some]
   rw [decide_same, show decide (Low 1 al) = decide (Bits al) from by rw [decide_eq_decide]; exact low_one al, show decide (Low 65535 al) = decide (Words al) from rfl, beq_dec]
   by_cases c3 : fn = 3
   ·simp [c3]
   by_cases c4 : fn = 4
   ·simp [c4]
   by_cases c23 : fn = 23
   ·simp [c23]
   simp [c3, c4, c23]
  by_cases c1 : fn = 1
  ·rw [if_pos c1, hj, if_pos (by simp [c1]), if_pos (Or.inl c1)]
  rw [if_neg c1, hj]
  by_cases c2 : fn = 2
  ·rw [if_pos (by simp [c2]), if_pos (Or.inr c2)]
  have h12 : ¬ (fn = 1 ∨ fn = 2) := by omega
  rw [if_neg h12, if_neg (show ¬ ((fn == 2) = true) by simp [c2])]
  split <;> rfl
 ·rw [if_neg hc, if_neg hc, within_f, Option.bind_some]
  by_cases h : 1 ≤ code ∧ code ≤ 255
  ·rw [decide_eq_true h, if_pos rfl, Bool.true_and, beq_dec]
  ·rw [decide_eq_false h, if_neg (by decide), Bool.false_and]
theorem or_high : ∀ m : Fin 128, Go.bits .or .u8 (m.1 : Int) 128 = (m.1 : Int) + 128 := by decide +kernel
theorem or_high64 : ∀ m : Fin 128, Go.bits .or .i64 (m.1 : Int) 128 = (m.1 : Int) + 128 := by decide +kernel
theorem fn_or {fn : Int} (h : 0 ≤ fn ∧ fn < 128) : Go.bits .or .u8 (fn % 256) 128 = fn + 128 := by
 rw [show fn % 256 = fn from by omega]
 obtain ⟨m, rfl⟩ := Int.eq_ofNat_of_zero_le h.1
 exact or_high ⟨m, by omega⟩
theorem fn_or64 {fn : Int} (h : 0 ≤ fn ∧ fn < 128) : Go.bits .or .i64 fn 128 = fn + 128 := by
 obtain ⟨m, rfl⟩ := Int.eq_ofNat_of_zero_le h.1
 exact or_high64 ⟨m, by omega⟩
structure AnsIs (fn a2 : Int) (al : List Int) (code : Int) : Prop where
 cd : 0 ≤ code ∧ code ≤ 255
 none : code ≠ 0 → al = []
 len : code = 0 → fn = 1 ∨ fn = 2 ∨ fn = 3 ∨ fn = 4 ∨ fn = 23 → (al.length : Int) = a2
 bits : code = 0 → fn = 1 ∨ fn = 2 → Bits al
 wrds : code = 0 → fn = 3 ∨ fn = 4 ∨ fn = 23 → Words al
 nov : code = 0 → ¬ (fn = 1 ∨ fn = 2 ∨ fn = 3 ∨ fn = 4 ∨ fn = 23) → al = []
theorem ans_is {fn a2 : Int} {al : List Int} {code : Int} (h : ansMayB fn a2 al code = true) : AnsIs fn a2 al code := by
 unfold ansMayB at h
 split at h
 ·next c0 =>
  split at h
  ·next c =>
   simp only [Bool.and_eq_true, decide_eq_true_eq] at h
   exact ⟨by omega, fun e => absurd c0 e, fun _ _ => h.1, fun _ _ => h.2, fun _ _ => by omega, fun _ _ => by omega⟩
  split at h
  ·next c1 c =>
   simp only [Bool.and_eq_true, decide_eq_true_eq] at h
   exact ⟨by omega, fun e => absurd c0 e, fun _ _ => h.1, fun _ _ => by omega, fun _ _ => h.2, fun _ _ => by omega⟩
  ·next c1 c =>
   simp only [decide_eq_true_eq] at h
   exact ⟨by omega, fun e => absurd c0 e, fun _ _ => by omega, fun _ _ => by omega, fun _ _ => by omega, fun _ _ => List.length_eq_zero_iff.1 (by omega)⟩
 ·next c0 =>
  simp only [Bool.and_eq_true, decide_eq_true_eq] at h
  exact ⟨by omega, fun _ => List.length_eq_zero_iff.1 (by omega), fun e => absurd e c0, fun e => absurd e c0, fun e => absurd e c0, fun e => absurd e c0⟩
theorem ansbytes_no (k : Nat) (fn a1 a2 : Int) (l : List Int) (a4 a5 a6 : Int) (al : List Int) (code : Int) (hl : l.length ≤ 1000000000000) (hk : l.length + 10 ≤ k) (hl2 : al.length ≤ 1000000000000) (hk2 : al.length + 10 ≤ k)
 (h : ¬ (mayB fn a1 a2 l a4 a5 a6 = true ∧ ansMayB fn a2 al code = true)) : pdu_AnswerBytes.f k fn a1 a2 l a4 a5 a6 al code = some ([], 1) := by
 unfold pdu_AnswerBytes.f
 rw [check_f k fn a1 a2 l a4 a5 a6 hl hk, Option.bind_some]
 have hj : pdu_AnswerBytes.j0 k true fn a1 a2 l a4 a5 a6 al code = some ([], 1) := by
  obtain ⟨k, rfl⟩ : ∃ m, k = m + 1 := ⟨k - 1, by omega⟩
  rw [pdu_AnswerBytes.j0]
  rw [if_pos rfl]
 cases hm : mayB fn a1 a2 l a4 a5 a6
 ·rw [if_neg (by decide), hj]
 ·rw [if_pos (by decide), pans_f k fn a1 a2 l a4 a5 a6 al code hl2 hk2, Option.bind_some]
  cases ha : ansMayB fn a2 al code
  ·exact hj
  ·exact absurd ⟨hm, ha⟩ h
theorem ansbytes_yes (k : Nat) (fn a1 a2 : Int) (l : List Int) (a4 a5 a6 : Int) (al : List Int) (code : Int) (hk : 10000 ≤ k) (h : mayB fn a1 a2 l a4 a5 a6 = true) (h2 : ansMayB fn a2 al code = true) (hal : al.length ≤ 2500) :
 pdu_AnswerBytes.f k fn a1 a2 l a4 a5 a6 al code = some (ansB fn a1 a2 l a4 a5 a6 al code, 0) := by
 have I := may_is h
 have J := ans_is h2
 have hlen := I.len
 have hfn := I.fns
 have ha := I.addr
 have hcode := J.cd
 unfold pdu_AnswerBytes.f
 rw [check_f k fn a1 a2 l a4 a5 a6 (by omega) (by omega), Option.bind_some, h, if_pos (by decide), pans_f k fn a1 a2 l a4 a5 a6 al code (by omega) (by omega), Option.bind_some, h2]
 obtain ⟨k, rfl⟩ : ∃ m, k = m + 1 + 1 + 1 + 1 := ⟨k - 4, by omega⟩
 rw [pdu_AnswerBytes.j0]
 unfold ansB
 rw [if_neg (by decide)]
 by_cases hc : code = 0
 ·rw [if_pos hc, if_pos hc, Option.bind_some]
  have e : (if fn = 1 then pdu_AnswerBytes.j1 (k + 1 + 1 + 1) [fn % 256] fn (fn == 1) fn a1 a2 l a4 a5 a6 al code else pdu_AnswerBytes.j1 (k + 1 + 1 + 1) [fn % 256] fn (fn == 2) fn a1 a2 l a4 a5 a6 al code) = pdu_AnswerBytes.j1 (k + 1 + 1 + 1) [fn % 256] fn (decide (fn = 1 ∨ fn = 2)) fn a1 a2 l a4 a5 a6 al code := by
   by_cases c1 : fn = 1
   ·(first | rw [if_pos c1] | rw [if_neg (by omega), if_pos c1]); congr 1; rw [beq_dec, decide_eq_decide]; omega
   ·rw [if_neg c1]; congr 1; rw [beq_dec, decide_eq_decide]; omega
  rw [e]
  rw [pdu_AnswerBytes.j1]
  by_cases c12 : fn = 1 ∨ fn = 2
  ·rw [if_pos (decide_eq_true c12), if_pos c12, ppacked_f al (J.bits hc c12) (by omega) (k + 1 + 1) (by omega), Option.bind_some, pcounted_f _ _ (by simp) (by rw [packs_len]; omega), Option.bind_some]
   rfl
  rw [if_neg (by rw [decide_eq_true_eq]; exact c12), if_neg c12]
  have e : (if fn = 3 then pdu_AnswerBytes.j2 (k + 1 + 1) [fn % 256] fn (fn == 3) fn a1 a2 l a4 a5 a6 al code else if fn = 4 then pdu_AnswerBytes.j2 (k + 1 + 1) [fn % 256] fn (fn == 4) fn a1 a2 l a4 a5 a6 al code else pdu_AnswerBytes.j2 (k + 1 + 1) [fn % 256] fn (fn == 23) fn a1 a2 l a4 a5 a6 al code) = pdu_AnswerBytes.j2 (k + 1 + 1) [fn % 256] fn (decide (fn = 3 ∨ fn = 4 ∨ fn = 23)) fn a1 a2 l a4 a5 a6 al code := by
   by_cases c3 : fn = 3
   ·(first | rw [if_pos c3] | rw [if_neg (by omega), if_pos c3]); congr 1; rw [beq_dec, decide_eq_decide]; omega
   by_cases c4 : fn = 4
   ·rw [if_neg c3, if_pos c4]; congr 1; rw [beq_dec, decide_eq_decide]; omega
   rw [if_neg c3, if_neg c4]; congr 1; rw [beq_dec, decide_eq_decide]; omega
  rw [e]
  rw [pdu_AnswerBytes.j2]
  by_cases c3 : fn = 3 ∨ fn = 4 ∨ fn = 23
  ·have hla := J.len hc (by omega)
   have hcn := I.cnt (by omega)
   have hne : al ≠ [] := by intro e; rw [e] at hla; simp at hla; omega
   rw [if_pos (decide_eq_true c3), if_pos c3, lay_f [] al hne (J.wrds hc c3) (by simp) (by omega), Option.bind_some, List.nil_append, pcounted_f _ _ (by simp) (by rw [lays_len]; omega), Option.bind_some]
   rfl
  rw [if_neg (by rw [decide_eq_true_eq]; exact c3), if_neg c3]
  have e : (if fn = 15 then pdu_AnswerBytes.j3 (k + 1) [fn % 256] (fn == 15) fn a1 a2 l a4 a5 a6 else pdu_AnswerBytes.j3 (k + 1) [fn % 256] (fn == 16) fn a1 a2 l a4 a5 a6) = pdu_AnswerBytes.j3 (k + 1) [fn % 256] (decide (fn = 15 ∨ fn = 16)) fn a1 a2 l a4 a5 a6 := by
   by_cases c1 : fn = 15
   ·(first | rw [if_pos c1] | rw [if_neg (by omega), if_pos c1]); congr 1; rw [beq_dec, decide_eq_decide]; omega
   ·rw [if_neg c1]; congr 1; rw [beq_dec, decide_eq_decide]; omega
  rw [e]
  rw [pdu_AnswerBytes.j3]
  by_cases c5 : fn = 15 ∨ fn = 16
  ·have hcn := I.cntl c5
   rw [if_pos (decide_eq_true c5), if_pos c5, lay_f [fn % 256] [a1, a2] (by simp) (words2 ha (by omega)) (by simp) (by simp), Option.bind_some]
   rfl
  rw [if_neg (by rw [decide_eq_true_eq]; exact c5), if_neg c5, bytes_yes k fn a1 a2 l a4 a5 a6 (by omega) h (by have := I.fns; omega), Option.bind_some]
 ·rw [if_neg hc, if_neg hc, fn_or (by omega), show code % 256 = code from by omega]
theorem ransbytes_yes (k : Nat) (fn a1 a2 : Int) (l : List Int) (a4 a5 a6 : Int) (al : List Int) (code : Int) (hk : 20000 ≤ k) (h : mayB fn a1 a2 l a4 a5 a6 = true) (h2 : ansMayB fn a2 al code = true) (hal : al.length ≤ 2500) :
 basculeref03_AnswerBytes.f k fn a1 a2 l a4 a5 a6 al code = some (ansB fn a1 a2 l a4 a5 a6 al code) := by
 have I := may_is h
 have J := ans_is h2
 have hlen := I.len
 have hfn := I.fns
 have ha := I.addr
 have hcode := J.cd
 obtain ⟨k, rfl⟩ : ∃ m, k = m + 1 + 1 + 1 := ⟨k - 3, by omega⟩
 unfold basculeref03_AnswerBytes.f ansB
 by_cases hc : code = 0
 ·rw [if_pos hc, if_pos hc, Option.bind_some]
  have e : (if fn = 1 then basculeref03_AnswerBytes.j0 (k + 1 + 1 + 1) [fn % 256] fn (fn == 1) fn a1 a2 l a4 a5 a6 al code else basculeref03_AnswerBytes.j0 (k + 1 + 1 + 1) [fn % 256] fn (fn == 2) fn a1 a2 l a4 a5 a6 al code) = basculeref03_AnswerBytes.j0 (k + 1 + 1 + 1) [fn % 256] fn (decide (fn = 1 ∨ fn = 2)) fn a1 a2 l a4 a5 a6 al code := by
   by_cases c1 : fn = 1
   ·(first | rw [if_pos c1] | rw [if_neg (by omega), if_pos c1]); congr 1; rw [beq_dec, decide_eq_decide]; omega
   ·rw [if_neg c1]; congr 1; rw [beq_dec, decide_eq_decide]; omega
  rw [e]
  rw [basculeref03_AnswerBytes.j0]
  by_cases c12 : fn = 1 ∨ fn = 2
  ·rw [if_pos (decide_eq_true c12), if_pos c12, refpack_f al (J.bits hc c12) (by omega) (k + 1 + 1) (by omega), Option.bind_some, rcounted_f _ (by rw [packs_len]; omega), Option.bind_some, if_pos (by simp [packs_len]; omega)]
   rfl
  rw [if_neg (by rw [decide_eq_true_eq]; exact c12), if_neg c12]
  have e : (if fn = 3 then basculeref03_AnswerBytes.j1 (k + 1 + 1) [fn % 256] fn (fn == 3) fn a1 a2 l a4 a5 a6 al code else if fn = 4 then basculeref03_AnswerBytes.j1 (k + 1 + 1) [fn % 256] fn (fn == 4) fn a1 a2 l a4 a5 a6 al code else basculeref03_AnswerBytes.j1 (k + 1 + 1) [fn % 256] fn (fn == 23) fn a1 a2 l a4 a5 a6 al code) = basculeref03_AnswerBytes.j1 (k + 1 + 1) [fn % 256] fn (decide (fn = 3 ∨ fn = 4 ∨ fn = 23)) fn a1 a2 l a4 a5 a6 al code := by
   by_cases c3 : fn = 3
   ·(first | rw [if_pos c3] | rw [if_neg (by omega), if_pos c3]); congr 1; rw [beq_dec, decide_eq_decide]; omega
   by_cases c4 : fn = 4
   ·rw [if_neg c3, if_pos c4]; congr 1; rw [beq_dec, decide_eq_decide]; omega
   rw [if_neg c3, if_neg c4]; congr 1; rw [beq_dec, decide_eq_decide]; omega
  rw [e]
  rw [basculeref03_AnswerBytes.j1]
  by_cases c3 : fn = 3 ∨ fn = 4 ∨ fn = 23
  ·rw [if_pos (decide_eq_true c3), if_pos c3, rlay_f al (J.wrds hc c3) (by omega) (k + 1) (by omega), Option.bind_some, rcounted_f _ (by rw [lays_len]; omega), Option.bind_some, if_pos (by simp [lays_len]; omega)]
   rfl
  rw [if_neg (by rw [decide_eq_true_eq]; exact c3), if_neg c3]
  have e : (if fn = 15 then basculeref03_AnswerBytes.j2 (k + 1) [fn % 256] (fn == 15) fn a1 a2 l a4 a5 a6 else basculeref03_AnswerBytes.j2 (k + 1) [fn % 256] (fn == 16) fn a1 a2 l a4 a5 a6) = basculeref03_AnswerBytes.j2 (k + 1) [fn % 256] (decide (fn = 15 ∨ fn = 16)) fn a1 a2 l a4 a5 a6 := by
   by_cases c1 : fn = 15
   ·(first | rw [if_pos c1] | rw [if_neg (by omega), if_pos c1]); congr 1; rw [beq_dec, decide_eq_decide]; omega
   ·rw [if_neg c1]; congr 1; rw [beq_dec, decide_eq_decide]; omega
  rw [e]
  rw [basculeref03_AnswerBytes.j2]
  by_cases c5 : fn = 15 ∨ fn = 16
  ·have hcn := I.cntl c5
   rw [if_pos (decide_eq_true c5), if_pos c5, rlay_f [a1, a2] (words2 ha (by omega)) (by simp) k (by simp; omega), Option.bind_some, if_pos (by simp [lays_len])]
   rfl
  rw [if_neg (by rw [decide_eq_true_eq]; exact c5), if_neg c5, rbytes_yes k fn a1 a2 l a4 a5 a6 (by omega) h (by have := I.fns; omega), Option.bind_some]
 ·rw [if_neg hc, if_neg hc, wrap64_id _ (by omega) (by omega), show (fn + 128) % 256 = fn + 128 from by omega, show code % 256 = code from by omega]
end Go.Proofs.Ytlalpooiegganaa.Mth
end

section
namespace Go.Proofs.Ytlalpooiegganaa.MthD
open Go.RowKit Go.Proofs.YtlalpooiegganaaW.PrintWords Go.Proofs.YtlalpooiegganaaW.PrintLast Go.Proofs.YtlalpooiegganaaW.PrintMore Go.Proofs.Ytlalpooiegganaa.ExtF Go.Proofs.Ytlalpooiegganaa.PG Go.Proofs.Ytlalpooiegganaa.PG Go.Proofs.Ytlalpooiegganaa.PP Go.Proofs.Ytlalpooiegganaa.PG Go.Proofs.Ytlalpooiegganaa.ExtM Go.Proofs.Ytlalpooiegganaa.MathP Go.Proofs.Ytlalpooiegganaa.Mth
set_option linter.unusedVariables false
set_option linter.unusedSimpArgs false
def unp (b : List Int) (n : Int) : List Int := if n ≤ 8 * (b.length : Int) then unbits b n.toNat else []
theorem unp_f (b : List Int) (hb : Bytes b) (n : Int) (hn : 0 ≤ n ∧ n ≤ 65535) (hl : b.length ≤ 1000000) (k : Nat) (hk : 100000 ≤ k) : PG.wire_Unpack.f k b n = some (unp b n, if n ≤ 8 * (b.length : Int) then 0 else 7) := by
 unfold unp
 by_cases h : n ≤ 8 * (b.length : Int)
 ·rw [if_pos h, if_pos h]
  obtain ⟨m, rfl⟩ := Int.eq_ofNat_of_zero_le hn.1
  exact unpack_yes b hb m (by omega) (by omega) k (by omega)
 ·rw [if_neg h, if_neg h]
  unfold PG.wire_Unpack.f
  rw [if_neg (by omega), wrap64_id _ (by omega) (by omega), if_pos (by omega)]
def candA (fn a2 : Int) (b : List Int) : List Int × Int :=
 if rd b 0 = fn + 128 then ([], rd b 1)
 else if fn = 1 ∨ fn = 2 then (unp (b.drop 2) a2, 0)
 else if fn = 3 ∨ fn = 4 ∨ fn = 23 then (wordsOf (b.drop 2), 0)
 else ([], 0)
def ansP (fn a1 a2 : Int) (l : List Int) (a4 a5 a6 : Int) (b : List Int) : Option (List Int × Int) :=
 if b.length < 2 then none else if rd b 0 = fn + 128 ∧ rd b 1 = 0 then none
 else if ansMayB fn a2 (candA fn a2 b).1 (candA fn a2 b).2 = true ∧ ansB fn a1 a2 l a4 a5 a6 (candA fn a2 b).1 (candA fn a2 b).2 = b then some (candA fn a2 b) else none
theorem ansB_bytes {fn a1 a2 : Int} {l : List Int} {a4 a5 a6 : Int} {al : List Int} {code : Int} (I : MayIs fn a1 a2 l a4 a5 a6) (J : AnsIs fn a2 al code) : Bytes (ansB fn a1 a2 l a4 a5 a6 al code) := by
 have hfn := I.fns
 have hlen := I.len
 unfold ansB
 split
 ·next c0 =>
  split
  ·next c => exact bytes_cons (by omega) (counted_bytes (packs_bytes (J.bits c0 c)))
  split
  ·next c => exact bytes_cons (by omega) (counted_bytes (lays_bytes (J.wrds c0 c)))
  split
  ·next c =>
   have := I.cntl c
   exact bytes_cons (by omega) (lays_bytes (words2 I.addr (by omega)))
  ·exact reqB_bytes I
 ·next c0 =>
  have := J.cd
  exact bytes_cons (by omega) (bytes_cons (by omega) bytes_nil)
def ansT (o : Option (List Int × Int)) : List Int × Int × Int := match o with | some x => (x.1, x.2, 0) | none => ([], 0, 4)
theorem pap_j1 (k : Nat) (hk : 30000 ≤ k) {fn a1 a2 : Int} {l : List Int} {a4 a5 a6 : Int} (h : mayB fn a1 a2 l a4 a5 a6 = true) (b : List Int) (hb : Bytes b) (al : List Int) (code : Int) (hal : al.length ≤ 2500) :
 PG.pdu_AnswerParse.j1 (k + 1) b fn a1 a2 l a4 a5 a6 al code = some (ansT (if ansMayB fn a2 al code = true ∧ ansB fn a1 a2 l a4 a5 a6 al code = b then some (al, code) else none)) := by
 have I := may_is h
 have hlen := I.len
 rw [PG.pdu_AnswerParse.j1]
 cases hm : ansMayB fn a2 al code
 ·rw [ansbytes_no k fn a1 a2 l a4 a5 a6 al code (by omega) (by omega) (by omega) (by omega) (fun x => Bool.false_ne_true (hm.symm.trans x.2)), Option.bind_some, if_neg (show ¬ ((1 : Int) = 0) by decide), if_neg (fun x => Bool.false_ne_true x.1)]
  rfl
 ·have J := ans_is hm
  rw [ansbytes_yes k fn a1 a2 l a4 a5 a6 al code (by omega) h hm hal, Option.bind_some, if_pos rfl]
  unfold PG.bytes_Equal.f
  rw [str_beq (ansB_bytes I J) hb, Option.bind_some]
  by_cases e : ansB fn a1 a2 l a4 a5 a6 al code = b
  ·rw [decide_eq_true e, if_pos rfl, if_pos ⟨rfl, e⟩]; rfl
  ·rw [decide_eq_false e, if_neg Bool.false_ne_true, if_neg (fun x => e x.2)]; rfl
theorem pap_yes (k : Nat) (hk : 200000 ≤ k) {fn a1 a2 : Int} {l : List Int} {a4 a5 a6 : Int} (h : mayB fn a1 a2 l a4 a5 a6 = true) (b : List Int) (hb : Bytes b) (hbl : b.length ≤ 4000) :
 PG.pdu_AnswerParse.f k fn a1 a2 l a4 a5 a6 b = some (ansT (ansP fn a1 a2 l a4 a5 a6 b)) := by
 have I := may_is h
 have hlen := I.len
 have hfn := I.fns
 obtain ⟨k, rfl⟩ : ∃ m, k = m + 1 + 1 := ⟨k - 2, by omega⟩
 unfold PG.pdu_AnswerParse.f ansP
 rw [check_f (k + 1 + 1) fn a1 a2 l a4 a5 a6 (by omega) (by omega), h, Option.bind_some, if_pos (show (if true = true then (0 : Int) else 1) = 0 from rfl)]
 by_cases h2 : b.length < 2
 ·rw [if_pos (by omega), if_pos h2]; rfl
 have r0 := bytes_rd hb 0
 have r1 := bytes_rd hb 1
 rw [if_neg (by omega), if_pos (by omega), if_neg h2, fn_or64 (by omega), wrap64_id (rd b 0) (by omega) (by omega), wrap64_id (rd b 1) (by omega) (by omega)]
 by_cases e0 : rd b 0 = fn + 128
 ·rw [if_pos e0, if_pos (by omega)]
  by_cases e1 : rd b 1 = 0
  ·rw [if_pos e1, if_pos ⟨e0, e1⟩, e1]; rfl
  ·rw [if_neg e1, if_neg (fun x => e1 x.2), pap_j1 (k + 1) (by omega) h b hb [] (rd b 1) (by simp)]
   unfold candA
   rw [if_pos e0]
 ·have hc0 : ∀ x, candA fn a2 b = x → x = (if fn = 1 ∨ fn = 2 then (unp (b.drop 2) a2, 0) else if fn = 3 ∨ fn = 4 ∨ fn = 23 then (wordsOf (b.drop 2), 0) else ([], 0)) := by
   intro x hx; rw [← hx]; unfold candA; rw [if_neg e0]
  have hce := hc0 _ rfl
  have hn01 : ¬ (rd b 0 = fn + 128 ∧ rd b 1 = 0) := fun x => e0 x.1
  rw [if_neg e0, if_neg hn01]
  have hd := bytes_drop hb 2
  have e : (if fn = 1 then PG.pdu_AnswerParse.j0 (k + 1 + 1) b true fn a1 a2 l a4 a5 a6 0 else PG.pdu_AnswerParse.j0 (k + 1 + 1) b (fn == 2) fn a1 a2 l a4 a5 a6 0) = PG.pdu_AnswerParse.j0 (k + 1 + 1) b (decide (fn = 1 ∨ fn = 2)) fn a1 a2 l a4 a5 a6 0 := by
   by_cases c1 : fn = 1
   ·rw [if_pos c1]; congr 1; rw [eq_comm, decide_eq_true_eq]; exact Or.inl c1
   ·rw [if_neg c1]; congr 1; rw [beq_dec, decide_eq_decide]; omega
  rw [e, PG.pdu_AnswerParse.j0]
  by_cases c12 : fn = 1 ∨ fn = 2
  ·have hcn := I.cnt (by omega)
   rw [if_pos (decide_eq_true c12), if_pos (by omega), unp_f _ hd a2 (by omega) (by rw [List.length_drop]; omega) (k + 1) (by omega), Option.bind_some, pap_j1 k (by omega) h b hb _ 0 (by unfold unp; split; rw [unbits_len]; omega; simp)]
   rw [hce, if_pos c12]
  rw [if_neg (by rw [decide_eq_true_eq]; exact c12)]
  by_cases c3 : fn = 3 ∨ fn = 4 ∨ fn = 23
  ·have hw := pwords_f _ hd (by rw [List.length_drop]; omega) (k + 1) (by rw [List.length_drop]; omega)
   have hj := pap_j1 k (by omega) h b hb (wordsOf (b.drop 2)) 0 (by rw [wordsOf_len, List.length_drop]; omega)
   rw [hce, if_neg c12, if_pos c3]
   rw [← hj]
   by_cases d3 : fn = 3
   ·rw [if_pos d3, if_pos (by omega), hw, Option.bind_some]
   by_cases d4 : fn = 4
   ·rw [if_neg d3, if_pos d4, if_pos (by omega), hw, Option.bind_some]
   rw [if_neg d3, if_neg d4, if_pos (by omega), if_pos (by omega), hw, Option.bind_some]
  ·rw [if_neg (by omega), if_neg (by omega), if_neg (by omega), pap_j1 k (by omega) h b hb [] 0 (by simp)]
   rw [hce, if_neg c12, if_neg c3]
theorem ansB_len {fn a1 a2 : Int} {l : List Int} {a4 a5 a6 : Int} {al : List Int} {code : Int} (I : MayIs fn a1 a2 l a4 a5 a6) (c0 : code = 0) : (ansB fn a1 a2 l a4 a5 a6 al code).length =
 if fn = 1 ∨ fn = 2 then 2 + (al.length + 7) / 8 else if fn = 3 ∨ fn = 4 ∨ fn = 23 then 2 + 2 * al.length else if fn = 15 ∨ fn = 16 then 5 else (reqB fn a1 a2 l a4 a5 a6).length := by
 unfold ansB
 rw [if_pos c0]
 split
 ·simp [packs_len]; omega
 split
 ·simp [lays_len]; omega
 split
 ·simp [lays_len]
 ·rfl
theorem ansB_size {fn a1 a2 : Int} {l : List Int} {a4 a5 a6 : Int} {al : List Int} {code : Int} (I : MayIs fn a1 a2 l a4 a5 a6) (hal : al.length ≤ 125 ∨ (fn = 1 ∨ fn = 2) ∧ al.length ≤ 2000) : (ansB fn a1 a2 l a4 a5 a6 al code).length ≤ 4000 := by
 have hl := I.len
 have hr := reqB_len I
 have hmo := I.most
 have hon := I.one
 by_cases c0 : code = 0
 ·rw [ansB_len I c0, hr]
  split <;> (try split) <;> (try split) <;> (try split) <;> (try split) <;> (try split) <;> (try split) <;> omega
 ·unfold ansB; rw [if_neg c0]; simp
end Go.Proofs.Ytlalpooiegganaa.MthD
end

section
namespace Go.Proofs.Ytlalpooiegganaa.PK
open Go.RowKit Go.Proofs.YtlalpooiegganaaW.PrintWords Go.Proofs.YtlalpooiegganaaW.PrintLast Go.Proofs.YtlalpooiegganaaW.PrintMore
attribute [local go_sem] max2_int min2_int max_two min_two max_three min_three max_four min_four   
set_option linter.unusedVariables false
set_option linter.unusedSimpArgs false
open Go.Proofs.Ytlalpooiegganaa.Ext Go.Proofs.Ytlalpooiegganaa.PP Go.Proofs.Ytlalpooiegganaa.ExtF Go.Proofs.Ytlalpooiegganaa.ExtM Go.Proofs.Ytlalpooiegganaa.PG
def errW : Option Int → Value
 | none => .nilIface
 | some c => .iface 0 (.int .i64 c)
theorem errW_none : errW none = .nilIface := rfl
theorem errW_some (c : Int) : errW (some c) = .iface 0 (.int .i64 c) := rfl
theorem info3 : (Try.prog.info? 3).map (fun i => (i.zero, i.size, i.bytes)) = some (some (.int .i64 0), 1, 8) := by kernel_rfl
structure S31 where
 f0 : Int
 f1 : Int
 f2 : Int
 f3 : (List Int)
 f4 : Int
 f5 : Int
 f6 : Int
def z31 : S31 := ⟨(0 : Int), (0 : Int), (0 : Int), ([] : List Int), (0 : Int), (0 : Int), (0 : Int)⟩
def k31 : Kd S31 := Kd.iso (Kd.pair (Kd.int .i64) (Kd.pair (Kd.int .i64) (Kd.pair (Kd.int .i64) (Kd.pair (Kd.slice 3 (Kd.int .i64)) (Kd.pair (Kd.int .i64) (Kd.pair (Kd.int .i64) (Kd.int .i64))))))) (fun x : S31 => (x.f0, x.f1, x.f2, x.f3, x.f4, x.f5, x.f6))
theorem k31_open {w : World} {x : S31} {cs : List Value} (h : k31.K w x cs) : ∃ A3 c3, cs = [.int .i64 x.f0, .int .i64 x.f1, .int .i64 x.f2, .slice A3 x.f3.length c3, .int .i64 x.f4, .int .i64 x.f5, .int .i64 x.f6] ∧ x.f3.length ≤ c3 ∧ (Kd.int .i64).C w A3 x.f3.length x.f3 := by
 obtain ⟨_, _, rfl, rfl, ⟨_, _, rfl, rfl, ⟨_, _, rfl, rfl, ⟨_, _, rfl, ⟨A3, c3, rfl, l3, g3⟩, ⟨_, _, rfl, rfl, ⟨_, _, rfl, rfl, rfl⟩⟩⟩⟩⟩⟩ := h
 exact ⟨A3, c3, rfl, l3, g3⟩
theorem k31_mk (w : World) (x : S31) {A3 : Option Addr} {c3 : Nat} (l3 : x.f3.length ≤ c3) (g3 : (Kd.int .i64).C w A3 x.f3.length x.f3) : k31.K w x [.int .i64 x.f0, .int .i64 x.f1, .int .i64 x.f2, .slice A3 x.f3.length c3, .int .i64 x.f4, .int .i64 x.f5, .int .i64 x.f6] := ⟨[.int .i64 x.f0], [.int .i64 x.f1, .int .i64 x.f2, .slice A3 x.f3.length c3, .int .i64 x.f4, .int .i64 x.f5, .int .i64 x.f6], rfl, rfl, ⟨[.int .i64 x.f1], [.int .i64 x.f2, .slice A3 x.f3.length c3, .int .i64 x.f4, .int .i64 x.f5, .int .i64 x.f6], rfl, rfl, ⟨[.int .i64 x.f2], [.slice A3 x.f3.length c3, .int .i64 x.f4, .int .i64 x.f5, .int .i64 x.f6], rfl, rfl, ⟨[.slice A3 x.f3.length c3], [.int .i64 x.f4, .int .i64 x.f5, .int .i64 x.f6], rfl, ⟨A3, c3, rfl, l3, g3⟩, ⟨[.int .i64 x.f4], [.int .i64 x.f5, .int .i64 x.f6], rfl, rfl, ⟨[.int .i64 x.f5], [.int .i64 x.f6], rfl, rfl, rfl⟩⟩⟩⟩⟩⟩
structure S61 where
 f0 : Int
 f1 : Int
 f2 : Int
 f3 : S31
 f4 : (List Int)
 f5 : Int
def z61 : S61 := ⟨(0 : Int), (0 : Int), (0 : Int), z31, ([] : List Int), (0 : Int)⟩
def k61 : Kd S61 := Kd.iso (Kd.pair (Kd.int .i64) (Kd.pair (Kd.int .i64) (Kd.pair (Kd.int .i64) (Kd.pair k31 (Kd.pair (Kd.slice 5 (Kd.int .u8)) (Kd.int .i64)))))) (fun x : S61 => (x.f0, x.f1, x.f2, x.f3, x.f4, x.f5))
theorem k61_open {w : World} {x : S61} {cs : List Value} (h : k61.K w x cs) : ∃ A6 c6 A10 c10, cs = [.int .i64 x.f0, .int .i64 x.f1, .int .i64 x.f2, .int .i64 x.f3.f0, .int .i64 x.f3.f1, .int .i64 x.f3.f2, .slice A6 x.f3.f3.length c6, .int .i64 x.f3.f4, .int .i64 x.f3.f5, .int .i64 x.f3.f6, .slice A10 x.f4.length c10, .int .i64 x.f5] ∧ x.f3.f3.length ≤ c6 ∧ (Kd.int .i64).C w A6 x.f3.f3.length x.f3.f3 ∧ x.f4.length ≤ c10 ∧ (Kd.int .u8).C w A10 x.f4.length x.f4 := by
 obtain ⟨_, _, rfl, rfl, ⟨_, _, rfl, rfl, ⟨_, _, rfl, rfl, ⟨_, _, rfl, s3, ⟨_, _, rfl, ⟨A10, c10, rfl, l10, g10⟩, rfl⟩⟩⟩⟩⟩ := h
 obtain ⟨A6, c6, rfl, l6, g6⟩ := k31_open s3
 exact ⟨A6, c6, A10, c10, rfl, l6, g6, l10, g10⟩
theorem k61_mk (w : World) (x : S61) {A6 : Option Addr} {c6 : Nat} (l6 : x.f3.f3.length ≤ c6) (g6 : (Kd.int .i64).C w A6 x.f3.f3.length x.f3.f3) {A10 : Option Addr} {c10 : Nat} (l10 : x.f4.length ≤ c10) (g10 : (Kd.int .u8).C w A10 x.f4.length x.f4) : k61.K w x [.int .i64 x.f0, .int .i64 x.f1, .int .i64 x.f2, .int .i64 x.f3.f0, .int .i64 x.f3.f1, .int .i64 x.f3.f2, .slice A6 x.f3.f3.length c6, .int .i64 x.f3.f4, .int .i64 x.f3.f5, .int .i64 x.f3.f6, .slice A10 x.f4.length c10, .int .i64 x.f5] := ⟨[.int .i64 x.f0], [.int .i64 x.f1, .int .i64 x.f2, .int .i64 x.f3.f0, .int .i64 x.f3.f1, .int .i64 x.f3.f2, .slice A6 x.f3.f3.length c6, .int .i64 x.f3.f4, .int .i64 x.f3.f5, .int .i64 x.f3.f6, .slice A10 x.f4.length c10, .int .i64 x.f5], rfl, rfl, ⟨[.int .i64 x.f1], [.int .i64 x.f2, .int .i64 x.f3.f0, .int .i64 x.f3.f1, .int .i64 x.f3.f2, .slice A6 x.f3.f3.length c6, .int .i64 x.f3.f4, .int .i64 x.f3.f5, .int .i64 x.f3.f6, .slice A10 x.f4.length c10, .int .i64 x.f5], rfl, rfl, ⟨[.int .i64 x.f2], [.int .i64 x.f3.f0, .int .i64 x.f3.f1, .int .i64 x.f3.f2, .slice A6 x.f3.f3.length c6, .int .i64 x.f3.f4, .int .i64 x.f3.f5, .int .i64 x.f3.f6, .slice A10 x.f4.length c10, .int .i64 x.f5], rfl, rfl, ⟨[.int .i64 x.f3.f0, .int .i64 x.f3.f1, .int .i64 x.f3.f2, .slice A6 x.f3.f3.length c6, .int .i64 x.f3.f4, .int .i64 x.f3.f5, .int .i64 x.f3.f6], [.slice A10 x.f4.length c10, .int .i64 x.f5], rfl, (k31_mk w x.f3 l6 g6), ⟨[.slice A10 x.f4.length c10], [.int .i64 x.f5], rfl, ⟨A10, c10, rfl, l10, g10⟩, rfl⟩⟩⟩⟩⟩
def rd_T61 (xs : List S61) (i : Int) : S61 := xs.getD i.toNat z61
theorem at_T61 {w : World} {A : Option Addr} {n : Nat} {xs : List S61} (h : Kd.C k61 w A n xs) (i : Int) (h0 : 0 ≤ i) (h1 : i < n) : ∃ ad A6 c6 A10 c10, A = some ad ∧ w.cell? (ad.add (i.toNat * 12)) = some (.int .i64 (rd_T61 xs i).f0) ∧ w.cell? ⟨(ad.add (i.toNat * 12)).block, (ad.add (i.toNat * 12)).off + 1, none⟩ = some (.int .i64 (rd_T61 xs i).f1) ∧ w.cell? ⟨(ad.add (i.toNat * 12)).block, (ad.add (i.toNat * 12)).off + 2, none⟩ = some (.int .i64 (rd_T61 xs i).f2) ∧ w.cell? ⟨(ad.add (i.toNat * 12)).block, (ad.add (i.toNat * 12)).off + 3, none⟩ = some (.int .i64 (rd_T61 xs i).f3.f0) ∧ w.cell? ⟨(ad.add (i.toNat * 12)).block, (ad.add (i.toNat * 12)).off + 4, none⟩ = some (.int .i64 (rd_T61 xs i).f3.f1) ∧ w.cell? ⟨(ad.add (i.toNat * 12)).block, (ad.add (i.toNat * 12)).off + 5, none⟩ = some (.int .i64 (rd_T61 xs i).f3.f2) ∧ w.cell? ⟨(ad.add (i.toNat * 12)).block, (ad.add (i.toNat * 12)).off + 6, none⟩ = some (.slice A6 (rd_T61 xs i).f3.f3.length c6) ∧ w.cell? ⟨(ad.add (i.toNat * 12)).block, (ad.add (i.toNat * 12)).off + 7, none⟩ = some (.int .i64 (rd_T61 xs i).f3.f4) ∧ w.cell? ⟨(ad.add (i.toNat * 12)).block, (ad.add (i.toNat * 12)).off + 8, none⟩ = some (.int .i64 (rd_T61 xs i).f3.f5) ∧ w.cell? ⟨(ad.add (i.toNat * 12)).block, (ad.add (i.toNat * 12)).off + 9, none⟩ = some (.int .i64 (rd_T61 xs i).f3.f6) ∧ w.cell? ⟨(ad.add (i.toNat * 12)).block, (ad.add (i.toNat * 12)).off + 10, none⟩ = some (.slice A10 (rd_T61 xs i).f4.length c10) ∧ w.cell? ⟨(ad.add (i.toNat * 12)).block, (ad.add (i.toNat * 12)).off + 11, none⟩ = some (.int .i64 (rd_T61 xs i).f5) ∧ (rd_T61 xs i).f3.f3.length ≤ c6 ∧ (Kd.int .i64).C w A6 (rd_T61 xs i).f3.f3.length (rd_T61 xs i).f3.f3 ∧ (rd_T61 xs i).f4.length ≤ c10 ∧ (Kd.int .u8).C w A10 (rd_T61 xs i).f4.length (rd_T61 xs i).f4 := by
 obtain ⟨ad, c, e, _, hK, hc0⟩ := Kd.C_get h z61 i h0 h1
 have hc : ∀ j u, c[j]? = some u → w.cell? (ad.add (i.toNat * 12 + j)) = some u := hc0
 obtain ⟨A6, c6, A10, c10, rfl, l6, g6, l10, g10⟩ := k61_open hK
 exact ⟨ad, A6, c6, A10, c10, e, hc 0 _ rfl, by rw [← add_field _ _ 1 (by omega)]; exact hc 1 _ rfl, by rw [← add_field _ _ 2 (by omega)]; exact hc 2 _ rfl, by rw [← add_field _ _ 3 (by omega)]; exact hc 3 _ rfl, by rw [← add_field _ _ 4 (by omega)]; exact hc 4 _ rfl, by rw [← add_field _ _ 5 (by omega)]; exact hc 5 _ rfl, by rw [← add_field _ _ 6 (by omega)]; exact hc 6 _ rfl, by rw [← add_field _ _ 7 (by omega)]; exact hc 7 _ rfl, by rw [← add_field _ _ 8 (by omega)]; exact hc 8 _ rfl, by rw [← add_field _ _ 9 (by omega)]; exact hc 9 _ rfl, by rw [← add_field _ _ 10 (by omega)]; exact hc 10 _ rfl, by rw [← add_field _ _ 11 (by omega)]; exact hc 11 _ rfl, l6, g6, l10, g10⟩
structure S39 where
 f0 : Int
 f1 : Int
 f2 : S31
structure S46 where
 f0 : (List Int)
 f1 : Int
structure S48 where
 f0 : Int
 f1 : S46
 f2 : Bool
end Go.Proofs.Ytlalpooiegganaa.PK
end

section
namespace Go.Proofs.Ytlalpooiegganaa.PK
open Go.RowKit Go.Proofs.YtlalpooiegganaaW.PrintWords Go.Proofs.YtlalpooiegganaaW.PrintLast Go.Proofs.YtlalpooiegganaaW.PrintMore
attribute [local go_sem] max2_int min2_int max_two min_two max_three min_three max_four min_four   
set_option linter.unusedVariables false
set_option linter.unusedSimpArgs false
open Go.Proofs.Ytlalpooiegganaa.Ext Go.Proofs.Ytlalpooiegganaa.PP Go.Proofs.Ytlalpooiegganaa.ExtF Go.Proofs.Ytlalpooiegganaa.ExtM Go.Proofs.Ytlalpooiegganaa.PG
def basculeref03_Bit.f (a0 : Int) : Option (Bool) := if a0 = 1 then (some true) else (if a0 = 2 then (some true) else (if a0 = 5 then (some true) else (some (a0 == 15))))
set_option maxHeartbeats 8000000 in
set_option maxRecDepth 100000 in
theorem basculeref03_Bit.calls (a0 : Int) (r : Bool) (w : World) (h : basculeref03_Bit.f a0 = some r) :
 Calls Try.prog 36 #[.int .i64 a0] w fun e w' => e = .returned (.bool r) ∧ Drawn0 w w' := by
 have H : (if a0 = 1 then (some true) else (if a0 = 2 then (some true) else (if a0 = 5 then (some true) else (some (a0 == 15))))) = some r := h
 clear h
 by_cases c2 : a0 = 1
 ·rw [if_pos c2] at H
  have c2b0 : (a0 == 1) = true := beq_iff_eq.mpr c2
  have c2b1 : (a0 != 1) = false := bne_eq_false_iff_eq.mpr c2
  clear c2
  obtain rfl := Option.some.inj H
  go_enter Try.func36, Try.ntmps36
  go_wp2
  go_ret
  exact ⟨by first | rfl | (simp; done) | (simp [*]; done), by repeat (first | exact Drawn0.refl _ | apply Drawn0.step)⟩
 ·rw [if_neg c2] at H
  have c2b0 : (a0 == 1) = false := beq_eq_false_iff_ne.mpr c2
  have c2b1 : (a0 != 1) = true := bne_iff_ne.mpr c2
  by_cases c3 : a0 = 2
  ·rw [if_pos c3] at H
   have c3b0 : (a0 == 2) = true := beq_iff_eq.mpr c3
   have c3b1 : (a0 != 2) = false := bne_eq_false_iff_eq.mpr c3
   clear c3
   obtain rfl := Option.some.inj H
   go_enter Try.func36, Try.ntmps36
   go_wp2
   go_ret
   exact ⟨by first | rfl | (simp; done) | (simp [*]; done), by repeat (first | exact Drawn0.refl _ | apply Drawn0.step)⟩
  ·rw [if_neg c3] at H
   have c3b0 : (a0 == 2) = false := beq_eq_false_iff_ne.mpr c3
   have c3b1 : (a0 != 2) = true := bne_iff_ne.mpr c3
   by_cases c4 : a0 = 5
   ·rw [if_pos c4] at H
    have c4b0 : (a0 == 5) = true := beq_iff_eq.mpr c4
    have c4b1 : (a0 != 5) = false := bne_eq_false_iff_eq.mpr c4
    clear c4
    obtain rfl := Option.some.inj H
    go_enter Try.func36, Try.ntmps36
    go_wp2
    go_ret
    exact ⟨by first | rfl | (simp; done) | (simp [*]; done), by repeat (first | exact Drawn0.refl _ | apply Drawn0.step)⟩
   ·rw [if_neg c4] at H
    have c4b0 : (a0 == 5) = false := beq_eq_false_iff_ne.mpr c4
    have c4b1 : (a0 != 5) = true := bne_iff_ne.mpr c4
    obtain rfl := Option.some.inj H
    go_enter Try.func36, Try.ntmps36
    go_wp2
    go_ret
    exact ⟨by first | rfl | (simp; done) | (simp [*]; done), by repeat (first | exact Drawn0.refl _ | apply Drawn0.step)⟩
end Go.Proofs.Ytlalpooiegganaa.PK
end

section
namespace Go.Proofs.Ytlalpooiegganaa.PK
open Go.RowKit Go.Proofs.YtlalpooiegganaaW.PrintWords Go.Proofs.YtlalpooiegganaaW.PrintLast Go.Proofs.YtlalpooiegganaaW.PrintMore
attribute [local go_sem] max2_int min2_int max_two min_two max_three min_three max_four min_four   
set_option linter.unusedVariables false
set_option linter.unusedSimpArgs false
open Go.Proofs.Ytlalpooiegganaa.Ext Go.Proofs.Ytlalpooiegganaa.PP Go.Proofs.Ytlalpooiegganaa.ExtF Go.Proofs.Ytlalpooiegganaa.ExtM Go.Proofs.Ytlalpooiegganaa.PG
mutual
def basculelaw07_answer.j0 : Nat → Int → Bool → Int → Int → Int → List Int → Int → Int → Int → Int → Option (List Int)
 | 0, _, _, _, _, _, _, _, _, _, _ => none
 | k + 1, x1, x19, x227000, x227001, x227002, x227003, x227004, x227005, x227006, x228001 => if x19 = true then (basculelaw07_answer.l0 k x1 0 x227000 x227001 x227002 x227003 x227004 x227005 x227006 ([] : List Int) x228001) else ((basculeref03_AnswerBytes.f k x227000 x227001 x227002 x227003 x227004 x227005 x227006 ([] : List Int) x228001).bind fun t241 => (some t241))
def basculelaw07_answer.l0 : Nat → Int → Int → Int → Int → Int → List Int → Int → Int → Int → List Int → Int → Option (List Int)
 | 0, _, _, _, _, _, _, _, _, _, _, _ => none
 | k + 1, x1, x6, x227000, x227001, x227002, x227003, x227004, x227005, x227006, x228000, x228001 => if x6 < x227002 then ((basculeref03_Bit.f x227000).bind fun t228 => (if t228 = true then (if x228000.length < 17592186044416 then (basculelaw07_answer.l0 k x1 (wrap64 (x6 + 1)) x227000 x227001 x227002 x227003 x227004 x227005 x227006 (x228000 ++ [Int.tmod x1 2]) x228001) else (none)) else (if x227000 ≤ 2 then (if x228000.length < 17592186044416 then (basculelaw07_answer.l0 k x1 (wrap64 (x6 + 1)) x227000 x227001 x227002 x227003 x227004 x227005 x227006 (x228000 ++ [Int.tmod x1 2]) x228001) else (none)) else (if x228000.length < 17592186044416 then (basculelaw07_answer.l0 k x1 (wrap64 (x6 + 1)) x227000 x227001 x227002 x227003 x227004 x227005 x227006 (x228000 ++ [Int.tmod x1 65536]) x228001) else (none))))) else ((basculeref03_AnswerBytes.f k x227000 x227001 x227002 x227003 x227004 x227005 x227006 x228000 x228001).bind fun t238 => (some t238))
end
def basculelaw07_answer.f (k : Nat) (a0_0 : Int) (a0_1 : Int) (a0_2 : Int) (l0_3 : List Int) (a0_4 : Int) (a0_5 : Int) (a0_6 : Int) (a1 : Int) : Option (List Int) := if a1 ≥ 0 then (if a0_0 ≤ 4 then (basculelaw07_answer.j0 k a1 true a0_0 a0_1 a0_2 l0_3 a0_4 a0_5 a0_6 0) else (basculelaw07_answer.j0 k a1 (a0_0 == 23) a0_0 a0_1 a0_2 l0_3 a0_4 a0_5 a0_6 0)) else ((basculeref03_AnswerBytes.f k a0_0 a0_1 a0_2 l0_3 a0_4 a0_5 a0_6 ([] : List Int) 2).bind fun t244 => (some t244))
theorem basculelaw07_answer.mono_l : ∀ k, (∀ y0 y1 y2 y3 y4 y5 y6 y7 y8 y9, LeO (basculelaw07_answer.j0 k y0 y1 y2 y3 y4 y5 y6 y7 y8 y9) (basculelaw07_answer.j0 (k + 1) y0 y1 y2 y3 y4 y5 y6 y7 y8 y9)) ∧ (∀ y0 y1 y2 y3 y4 y5 y6 y7 y8 y9 y10, LeO (basculelaw07_answer.l0 k y0 y1 y2 y3 y4 y5 y6 y7 y8 y9 y10) (basculelaw07_answer.l0 (k + 1) y0 y1 y2 y3 y4 y5 y6 y7 y8 y9 y10))
 | 0 => ⟨fun _ _ _ _ _ _ _ _ _ _ r h => by simp [basculelaw07_answer.j0] at h, fun _ _ _ _ _ _ _ _ _ _ _ r h => by simp [basculelaw07_answer.l0] at h⟩
 | k + 1 => by
  obtain ⟨ih0, ih1⟩ := basculelaw07_answer.mono_l k
  refine ⟨?_, ?_⟩
  ·intro y0 y1 y2 y3 y4 y5 y6 y7 y8 y9
   unfold basculelaw07_answer.j0
   repeat' first
   | (with_reducible exact ih0 _ _ _ _ _ _ _ _ _ _)
   | (with_reducible exact ih1 _ _ _ _ _ _ _ _ _ _ _)
   | (with_reducible exact basculeref03_AnswerBytes.mono _ _ _ _ _ _ _ _ _ _)
   | (with_reducible exact LeO.refl _)
   | (with_reducible exact LeO.none _)
   | (with_reducible refine LeO.ite ?_ ?_)
   | (with_reducible refine LeO.bind ?_ (fun _ => ?_))
   | exact ih0 _ _ _ _ _ _ _ _ _ _
   | exact ih1 _ _ _ _ _ _ _ _ _ _ _
   | exact basculeref03_AnswerBytes.mono _ _ _ _ _ _ _ _ _ _
   | exact LeO.none _
   | refine LeO.ite ?_ ?_
   | refine LeO.bind ?_ (fun _ => ?_)
  ·intro y0 y1 y2 y3 y4 y5 y6 y7 y8 y9 y10
   unfold basculelaw07_answer.l0
   repeat' first
   | (with_reducible exact ih0 _ _ _ _ _ _ _ _ _ _)
   | (with_reducible exact ih1 _ _ _ _ _ _ _ _ _ _ _)
   | (with_reducible exact basculeref03_AnswerBytes.mono _ _ _ _ _ _ _ _ _ _)
   | (with_reducible exact LeO.refl _)
   | (with_reducible exact LeO.none _)
   | (with_reducible refine LeO.ite ?_ ?_)
   | (with_reducible refine LeO.bind ?_ (fun _ => ?_))
   | exact ih0 _ _ _ _ _ _ _ _ _ _
   | exact ih1 _ _ _ _ _ _ _ _ _ _ _
   | exact basculeref03_AnswerBytes.mono _ _ _ _ _ _ _ _ _ _
   | exact LeO.none _
   | refine LeO.ite ?_ ?_
   | refine LeO.bind ?_ (fun _ => ?_)
theorem basculelaw07_answer.mono : ∀ a0 a1 a2 a3 a4 a5 a6 a7 k, LeO (basculelaw07_answer.f k a0 a1 a2 a3 a4 a5 a6 a7) (basculelaw07_answer.f (k + 1) a0 a1 a2 a3 a4 a5 a6 a7) := by
 intro a0 a1 a2 a3 a4 a5 a6 a7 k
 obtain ⟨ih0, ih1⟩ := basculelaw07_answer.mono_l k
 unfold basculelaw07_answer.f
 repeat' first
  | (with_reducible exact ih0 _ _ _ _ _ _ _ _ _ _)
  | (with_reducible exact ih1 _ _ _ _ _ _ _ _ _ _ _)
  | (with_reducible exact basculeref03_AnswerBytes.mono _ _ _ _ _ _ _ _ _ _)
  | (with_reducible exact LeO.refl _)
  | (with_reducible exact LeO.none _)
  | (with_reducible refine LeO.ite ?_ ?_)
  | (with_reducible refine LeO.bind ?_ (fun _ => ?_))
  | exact ih0 _ _ _ _ _ _ _ _ _ _
  | exact ih1 _ _ _ _ _ _ _ _ _ _ _
  | exact basculeref03_AnswerBytes.mono _ _ _ _ _ _ _ _ _ _
  | exact LeO.none _
  | refine LeO.ite ?_ ?_
  | refine LeO.bind ?_ (fun _ => ?_)
set_option maxHeartbeats 8000000 in
set_option maxRecDepth 100000 in
theorem basculelaw07_answer.calls (k : Nat) (a0_0 : Int) (a0_1 : Int) (a0_2 : Int) (A0_3 : Option Addr) (c0_3 : Nat) (l0_3 : List Int) (a0_4 : Int) (a0_5 : Int) (a0_6 : Int) (a1 : Int) (r : List Int) (w : World) (hr0_3 : Kd.C (Kd.int .i64) w A0_3 l0_3.length l0_3) (hc0_3 : l0_3.length ≤ c0_3) (h : basculelaw07_answer.f k a0_0 a0_1 a0_2 l0_3 a0_4 a0_5 a0_6 a1 = some r) :
 Calls Try.prog 15 #[.agg #[.int .i64 a0_0, .int .i64 a0_1, .int .i64 a0_2, .slice A0_3 l0_3.length c0_3, .int .i64 a0_4, .int .i64 a0_5, .int .i64 a0_6], .int .i64 a1] w fun e w' => ∃ v0_ : Value, e = .returned (v0_) ∧ Kd.R (Kd.int .u8) 5 w' w.heap.size (fun _ => True) v0_ r ∧ Below w.heap.size w w' := by
 have hu31 := Try.underlying31
 have hu46 := Try.underlying46
 have HR0_3 := Aside0.mk hr0_3
 have HC0_3 := Aside0.mk hc0_3
 clear hr0_3 hc0_3
 have HB := Aside0.mk (Below.refl w.heap.size w)
 have H : (if a1 ≥ 0 then (if a0_0 ≤ 4 then (basculelaw07_answer.j0 k a1 true a0_0 a0_1 a0_2 l0_3 a0_4 a0_5 a0_6 0) else (basculelaw07_answer.j0 k a1 (a0_0 == 23) a0_0 a0_1 a0_2 l0_3 a0_4 a0_5 a0_6 0)) else ((basculeref03_AnswerBytes.f k a0_0 a0_1 a0_2 l0_3 a0_4 a0_5 a0_6 ([] : List Int) 2).bind fun t244 => (some t244))) = some r := h
 clear h
 by_cases c3 : a1 ≥ 0
 ·rw [if_pos c3] at H
  have c3b0 : decide (0 ≤ a1) = true := decide_eq_true c3
  clear c3
  have HC4 := Aside0.mk H
  clear H
  go_enter Try.func15, Try.ntmps15
  go_upto_region 4 with (first | ((with_reducible refine gate_dst (N := 2) rfl ?_); refine bx_ (N := 2) (cs := #[.int .i64 a0_0, .int .i64 a0_1, .int .i64 a0_2, .slice A0_3 l0_3.length c0_3, .int .i64 a0_4, .int .i64 a0_5, .int .i64 a0_6]) (t := 31) ?_; intro gb226 hg w5 hbox hb; have n0_ := Aside0.mk (below_step (bl0_ HB) hb); have n1_ := Aside0.mk (hbox); have n2_ := Aside0.mk ((by rw [hg]; exact (below_size (bl0_ HB)) : w.heap.size ≤ gb226)); have n3_ := Aside0.mk ((by rw [hg]; exact (below_size (bl0_ HB)) : w.heap.size ≤ gb226)); clear HB; have HB := n0_; have BK226 := n1_; have GW226 := n2_; have GE226 := n3_; clear n0_ n1_ n2_ n3_; clear hb hbox hg) | ((with_reducible refine gate_dst (N := 5) rfl ?_); refine bx_ (N := 5) (cs := #[.slice none 0 0, .int .i64 0]) (t := 46) ?_; intro gb227 hg w6 hbox hb; have n0_ := Aside0.mk (blk_below (g := gb226) (bk_ BK226) hb); have n1_ := Aside0.mk (below_step (bl1_ HB GE226) hb); have n2_ := Aside0.mk (hbox); have n3_ := Aside0.mk ((by rw [hg]; exact (below_size (bl1_ HB GE226)) : w.heap.size ≤ gb227)); have n4_ := Aside0.mk ((by rw [hg]; exact (below_size (bl1_ HB GE226)) : w.heap.size ≤ gb227)); have n5_ := Aside0.mk ((by rw [hg]; exact Nat.ne_of_lt (blk_lt (g := gb226) (bk_ BK226)) : gb226 ≠ gb227)); have n6_ := Aside0.mk ((by rw [hg]; exact Nat.ne_of_gt (blk_lt (g := gb226) (bk_ BK226)) : gb227 ≠ gb226)); clear BK226; clear HB; have BK226 := n0_; have HB := n1_; have BK227 := n2_; have GW227 := n3_; have GE227 := n4_; have NB226_227 := n5_; have NB227_226 := n6_; clear n0_ n1_ n2_ n3_ n4_ n5_ n6_; clear hb hbox hg; have hnb7 := NB227_226.out; have hnc7 := NB226_227.out; refine cz2_ BK227.out ?_; intro hcz8_0 hcz8_1 hfz8_0 hfz8_1))
  (try simp only [Act.put, List.setIfInBounds_toArray, List.set_cons_zero, List.set_cons_succ])
  go_cut [19] (fun v19 wc => ∃ (kq : Nat) (x19_3 : Bool), v19 = .bool x19_3 ∧ Aside0 (basculelaw07_answer.j0 kq a1 x19_3 a0_0 a0_1 a0_2 l0_3 a0_4 a0_5 a0_6 0 = some r) ∧ Aside0 (kq ≤ k) ∧ Aside0 (wc.heap[gb226]? = some (.cells #[.int .i64 a0_0, .int .i64 a0_1, .int .i64 a0_2, (.slice A0_3 l0_3.length c0_3), .int .i64 a0_4, .int .i64 a0_5, .int .i64 a0_6] 31 (0, 0))) ∧ Aside0 (wc.heap[gb227]? = some (.cells #[(.slice none 0 0), .int .i64 0] 46 (0, 0))) ∧ Aside0 (Below w.heap.size w wc))
  case first =>
   have H := HC4.out
   clear HC4
   by_cases c9 : a0_0 ≤ 4
   ·rw [if_pos c9] at H
    have c9b0 : decide (a0_0 ≤ 4) = true := decide_eq_true c9
    clear c9
    (first | rw [c9b0] | (simp only [i64_w, i32_w]; rw [c9b0]) | skip)
    have H' := Aside0.mk H
    clear H
    have hnb10 := NB226_227.out
    have hnc10 := NB227_226.out
    refine cz7_ BK226.out ?_; intro hcz11_0 hcz11_1 hcz11_2 hcz11_3 hcz11_4 hcz11_5 hcz11_6 hfz11_0 hfz11_1 hfz11_2 hfz11_3 hfz11_4 hfz11_5 hfz11_6
    go_wp2
    go_meet
    case rel => exact ⟨_, (true), (by first | rfl | (simp; done) | (simp [*]; done)), H', ⟨by first | omega | exact Nat.le_refl _⟩, ⟨by (with_reducible repeat (first | refine blk_drewN ?_ _ | refine blk_drew ?_ | refine blk_alloc ?_ _)); refine blk_far ?_ NB226_227.out _; (with_reducible repeat (first | refine blk_drewN ?_ _ | refine blk_drew ?_ | refine blk_alloc ?_ _)); refine blk_far ?_ NB226_227.out _; (with_reducible repeat (first | refine blk_drewN ?_ _ | refine blk_drew ?_ | refine blk_alloc ?_ _)); refine blk_far ?_ NB226_227.out _; (with_reducible repeat (first | refine blk_drewN ?_ _ | refine blk_drew ?_ | refine blk_alloc ?_ _)); exact BK226.out⟩, ⟨by (with_reducible repeat (first | refine blk_drewN ?_ _ | refine blk_drew ?_ | refine blk_alloc ?_ _)); refine blk_put (cs := #[.slice none 0 0, .int .i64 2]) ?_ 1 _ rfl; (with_reducible repeat (first | refine blk_drewN ?_ _ | refine blk_drew ?_ | refine blk_alloc ?_ _)); refine blk_put (cs := #[.slice none 0 0, .int .i64 0]) ?_ 1 _ rfl; (with_reducible repeat (first | refine blk_drewN ?_ _ | refine blk_drew ?_ | refine blk_alloc ?_ _)); refine blk_put (cs := #[.slice none 0 0, .int .i64 0]) ?_ 0 _ rfl; (with_reducible repeat (first | refine blk_drewN ?_ _ | refine blk_drew ?_ | refine blk_alloc ?_ _)); exact BK227.out⟩, ⟨bl2_ HB GE226 GE227⟩⟩
   ·rw [if_neg c9] at H
    have c9b0 : decide (a0_0 ≤ 4) = false := decide_eq_false c9
    clear c9
    (first | rw [c9b0] | (simp only [i64_w, i32_w]; rw [c9b0]) | skip)
    have H' := Aside0.mk H
    clear H
    have hnb12 := NB226_227.out
    have hnc12 := NB227_226.out
    refine cz7_ BK226.out ?_; intro hcz13_0 hcz13_1 hcz13_2 hcz13_3 hcz13_4 hcz13_5 hcz13_6 hfz13_0 hfz13_1 hfz13_2 hfz13_3 hfz13_4 hfz13_5 hfz13_6
    go_wp2
    go_meet
    case rel => exact ⟨_, ((a0_0 == 23)), (by first | rfl | (simp; done) | (simp [*]; done)), H', ⟨by first | omega | exact Nat.le_refl _⟩, ⟨by (with_reducible repeat (first | refine blk_drewN ?_ _ | refine blk_drew ?_ | refine blk_alloc ?_ _)); refine blk_far ?_ NB226_227.out _; (with_reducible repeat (first | refine blk_drewN ?_ _ | refine blk_drew ?_ | refine blk_alloc ?_ _)); refine blk_far ?_ NB226_227.out _; (with_reducible repeat (first | refine blk_drewN ?_ _ | refine blk_drew ?_ | refine blk_alloc ?_ _)); refine blk_far ?_ NB226_227.out _; (with_reducible repeat (first | refine blk_drewN ?_ _ | refine blk_drew ?_ | refine blk_alloc ?_ _)); exact BK226.out⟩, ⟨by (with_reducible repeat (first | refine blk_drewN ?_ _ | refine blk_drew ?_ | refine blk_alloc ?_ _)); refine blk_put (cs := #[.slice none 0 0, .int .i64 2]) ?_ 1 _ rfl; (with_reducible repeat (first | refine blk_drewN ?_ _ | refine blk_drew ?_ | refine blk_alloc ?_ _)); refine blk_put (cs := #[.slice none 0 0, .int .i64 0]) ?_ 1 _ rfl; (with_reducible repeat (first | refine blk_drewN ?_ _ | refine blk_drew ?_ | refine blk_alloc ?_ _)); refine blk_put (cs := #[.slice none 0 0, .int .i64 0]) ?_ 0 _ rfl; (with_reducible repeat (first | refine blk_drewN ?_ _ | refine blk_drew ?_ | refine blk_alloc ?_ _)); exact BK227.out⟩, ⟨bl2_ HB GE226 GE227⟩⟩
  case rest =>
   clear HC4
   try clear c1
   try clear p2
   try clear c3
   try clear c3b0
   try clear c7
   try clear c9
   try clear c9b0
   try clear c10
   try clear c12
   try clear hcz11_0 hcz11_1 hcz11_2 hcz11_3 hcz11_4 hcz11_5 hcz11_6
   try clear hcz13_0 hcz13_1 hcz13_2 hcz13_3 hcz13_4 hcz13_5 hcz13_6
   try clear hcz8_0 hcz8_1
   try clear hfz11_0 hfz11_1 hfz11_2 hfz11_3 hfz11_4 hfz11_5 hfz11_6
   try clear hfz13_0 hfz13_1 hfz13_2 hfz13_3 hfz13_4 hfz13_5 hfz13_6
   try clear hfz8_0 hfz8_1
   obtain ⟨kq, x19_3, rfl, HA, HJ3, BK226, BK227, HB⟩ := hcut
   cases kq with
   | zero => exact absurd HA.out (by simp [basculelaw07_answer.j0])
   | succ kj3 =>
    have H := HA.out
    clear HA
    simp only [basculelaw07_answer.j0] at H
    by_cases c14 : x19_3 = true
    ·subst c14
     have H1 : (basculelaw07_answer.l0 kj3 a1 0 a0_0 a0_1 a0_2 l0_3 a0_4 a0_5 a0_6 ([] : List Int) 0) = some r := by rw [if_pos rfl] at H; exact H
     clear H
     have H := H1
     clear H1
     have H' := Aside0.mk H
     clear H
     go_wp2
     go_loopg [6] kj3 (fun kq v6 w' => ∃ (x6_2 : Int) (x228000_2 : List Int) (u228000 : Value), v6 = .int .i64 x6_2 ∧ Aside0 (basculelaw07_answer.l0 kq a1 x6_2 a0_0 a0_1 a0_2 l0_3 a0_4 a0_5 a0_6 x228000_2 0 = some r) ∧ Aside0 (kq ≤ kj3) ∧ Aside0 (Kd.R (Kd.int .i64) 3 w' w.heap.size (fun _ => True) u228000 x228000_2) ∧ Aside0 (w'.heap[gb226]? = some (.cells #[.int .i64 a0_0, .int .i64 a0_1, .int .i64 a0_2, (.slice A0_3 l0_3.length c0_3), .int .i64 a0_4, .int .i64 a0_5, .int .i64 a0_6] 31 (0, 0))) ∧ Aside0 (w'.heap[gb227]? = some (.cells #[u228000, .int .i64 0] 46 (0, 0))) ∧ Aside0 (Below w.heap.size w w'))
     case atStart => exact ⟨(0), (([] : List Int)), (.slice none 0 0), (by first | rfl | (simp; done) | (simp [*]; done)), H', ⟨Nat.le_refl _⟩, ⟨by first | exact Kd.R_nil _ _ _ _ _ | exact Kd.N_nil _ _ _ _ _ | exact Kd.V_nil _ _ _ _ _ | exact Kd.Q_nil _ _ _ _ _ | exact Kd.S_nil _ _ _ _ _⟩, ⟨bk_ BK226⟩, ⟨bk_ BK227⟩, ⟨bl2_ HB GE226 GE227⟩⟩
     case round =>
      clear H'
      try clear c1
      try clear p2
      try clear c3
      try clear c3b0
      try clear c7
      try clear c9
      try clear c9b0
      try clear c10
      try clear c12
      try clear c14
      try clear hcz11_0 hcz11_1 hcz11_2 hcz11_3 hcz11_4 hcz11_5 hcz11_6
      try clear hcz13_0 hcz13_1 hcz13_2 hcz13_3 hcz13_4 hcz13_5 hcz13_6
      try clear hcz8_0 hcz8_1
      try clear hfz11_0 hfz11_1 hfz11_2 hfz11_3 hfz11_4 hfz11_5 hfz11_6
      try clear hfz13_0 hfz13_1 hfz13_2 hfz13_3 hfz13_4 hfz13_5 hfz13_6
      try clear hfz8_0 hfz8_1
      try clear p2
      obtain ⟨x6_2, x228000_2, u228000, rfl, HA, HK2, HO_228000, BK226, BK227, HB⟩ := hrel
      cases gk with
      | zero => exact absurd HA.out (by simp [basculelaw07_answer.l0])
      | succ k2 =>
       have H := HA.out
       clear HA
       simp only [basculelaw07_answer.l0] at H
       by_cases c15 : x6_2 < a0_2
       ·rw [if_pos c15] at H
        have c15b0 : decide (x6_2 < a0_2) = true := decide_eq_true c15
        clear c15
        replace H := Option.bind_eq_some_iff.mp H
        obtain ⟨t228, A160, H⟩ := H
        replace H : (if t228 = true then (if x228000_2.length < 17592186044416 then (basculelaw07_answer.l0 k2 a1 (wrap64 (x6_2 + 1)) a0_0 a0_1 a0_2 l0_3 a0_4 a0_5 a0_6 (x228000_2 ++ [Int.tmod a1 2]) 0) else (none)) else (if a0_0 ≤ 2 then (if x228000_2.length < 17592186044416 then (basculelaw07_answer.l0 k2 a1 (wrap64 (x6_2 + 1)) a0_0 a0_1 a0_2 l0_3 a0_4 a0_5 a0_6 (x228000_2 ++ [Int.tmod a1 2]) 0) else (none)) else (if x228000_2.length < 17592186044416 then (basculelaw07_answer.l0 k2 a1 (wrap64 (x6_2 + 1)) a0_0 a0_1 a0_2 l0_3 a0_4 a0_5 a0_6 (x228000_2 ++ [Int.tmod a1 65536]) 0) else (none)))) = some r := H
        have A16 := Aside0.mk A160
        clear A160
        by_cases c17 : t228 = true
        ·subst c17
         have H1 : (if x228000_2.length < 17592186044416 then (basculelaw07_answer.l0 k2 a1 (wrap64 (x6_2 + 1)) a0_0 a0_1 a0_2 l0_3 a0_4 a0_5 a0_6 (x228000_2 ++ [Int.tmod a1 2]) 0) else (none)) = some r := by rw [if_pos rfl] at H; exact H
         clear H
         have H := H1
         clear H1
         by_cases c18 : x228000_2.length < 17592186044416
         ·rw [if_pos c18] at H
          have LMc18 := Aside0.mk c18
          clear c18
          obtain ⟨y229, hy229⟩ : ∃ y_ : List Int, y_ = (x228000_2 ++ [Int.tmod a1 2]) := ⟨_, rfl⟩
          replace H : (basculelaw07_answer.l0 k2 a1 (wrap64 (x6_2 + 1)) a0_0 a0_1 a0_2 l0_3 a0_4 a0_5 a0_6 y229 0) = some r := by first | (rw [hy229]; with_reducible exact H) | (have H2_ := (Option.bind_some _ _).symm.trans H; rw [hy229]; with_reducible exact H2_) | (have H2_ := (Option.bind_some _ _).symm.trans H; with_reducible exact H2_) | with_reducible exact H | (rw [hy229]; exact H) | exact H
          have Ny229 := Aside0.mk hy229
          clear hy229
          have H' := Aside0.mk H
          clear H
          have hnb19 := NB226_227.out
          have hnc19 := NB227_226.out
          refine cz7_ BK226.out ?_; intro hcz20_0 hcz20_1 hcz20_2 hcz20_3 hcz20_4 hcz20_5 hcz20_6 hfz20_0 hfz20_1 hfz20_2 hfz20_3 hfz20_4 hfz20_5 hfz20_6
          go_wp2_with (first | ((with_reducible refine gate_callee (f := 36) rfl ?_); refine goesL_ (some 30) rfl rfl Try.func36 (by kernel_rfl) rfl #[.int .i64 a0_0] rfl ar_ ?_; (with_reducible refine (basculeref03_Bit.calls a0_0 true _ A16.out).mono ?_); rintro e w' ⟨rfl, ⟨nd, rfl⟩⟩; refine ⟨_, rfl, ?_⟩; (try (rw [drewN_self wr]; generalize hq_ : World.drewN wr _ = wr; have n0_ : Aside0 (Kd.R (Kd.int .i64) 3 wr w.heap.size (fun _ => True) u228000 x228000_2) := ⟨by rw [← hq_]; exact (kr_ HO_228000)⟩; have n1_ : Aside0 (wr.heap[gb226]? = some (.cells #[.int .i64 a0_0, .int .i64 a0_1, .int .i64 a0_2, .slice A0_3 l0_3.length c0_3, .int .i64 a0_4, .int .i64 a0_5, .int .i64 a0_6] 31 (0, 0))) := ⟨by rw [← hq_]; exact (bk_ BK226)⟩; have n2_ : Aside0 (wr.heap[gb227]? = some (.cells #[u228000, .int .i64 0] 46 (0, 0))) := ⟨by rw [← hq_]; exact (bk_ BK227)⟩; have n3_ : Aside0 (Below w.heap.size w wr) := ⟨by rw [← hq_]; exact (bl2_ HB GE226 GE227)⟩; clear HO_228000 BK226 BK227 HB hq_; have HO_228000 := n0_; have BK226 := n1_; have BK227 := n2_; have HB := n3_; clear n0_ n1_ n2_ n3_)); refine cz2_ BK227.out ?_; intro hcz21_0 hcz21_1 hfz21_0 hfz21_1; have hcy_0 : wr.cell? ⟨gb226, 0, none⟩ = some (.int .i64 a0_0) := (blk_cell BK226.out 0).trans rfl; have hfy_0 := blk_frozen BK226.out 0) | ((with_reducible refine gate_builtin (b := .append) (xs := #[.tmp 39, .tmp 41]) rfl ?_); at_builtin; refine Kd.R_append (Kd.int .i64) (w0 := w) w.heap.size rfl (.tmp 39) (.tmp 41) 29 3 (.int .i64 0) 8 rfl Try.underlying29 info3 rfl (by decide) (by omega) u228000 x228000_2 (Int.tmod a1 2) [.int .i64 (Int.tmod a1 2)] (fun _ => True) (fun _ => False) rfl rfl ?aP (fun _ hk => hk.elim) ?aF ?aO ?aB ?aS ?aL ?_; (case aP => exact rfl); (case aB => exact (bl2_ HB GE226 GE227)); (case aF => exact (fun _ _ => trivial)); (case aO => exact (kr_ HO_228000)); (case aS => exact (below_size (bl2_ HB GE226 GE227))); (case aL => have := LMc18.out; omega); intro v230 w22 ho hb hg hat; rw [← Ny229.out] at ho; have n0_ := Aside0.mk (blk_grown (g := gb226) (bk_ BK226) hg (Kd.R_ne HO_228000.out BK226.out (by decide))); have n1_ := Aside0.mk (blk_grown (g := gb227) (bk_ BK227) hg (Kd.R_ne HO_228000.out BK227.out (by decide))); have n2_ := Aside0.mk (hb); have n3_ := Aside0.mk (ho); clear BK226; clear BK227; clear HB; clear HO_228000; have BK226 := n0_; have BK227 := n1_; have HB := n2_; have HO231 := n3_; clear n0_ n1_ n2_ n3_; clear ho hb hg hat; obtain ⟨Ao23, co23, eo23⟩ := Kd.R_slice HO231.out; subst eo23; refine cz2_ BK227.out ?_; intro hcz24_0 hcz24_1 hfz24_0 hfz24_1))
          go_roundg k2
          case measure => have := HJ3.out; have := HK2.out; omega
          case rel => exact ⟨(wrap64 (x6_2 + 1)), (y229), (.slice Ao23 y229.length co23), (by first | rfl | (simp; done) | (simp [*]; done)), H', ⟨by have := HJ3.out; have := HK2.out; omega⟩, ⟨by (with_reducible repeat (first | apply Kd.R_alloc | apply Kd.R_drewN | apply Kd.R_drew)); exact Kd.R_mono (Kd.R_far (p := ⟨gb227, 0, none⟩) (Kd.R_types HO231.out BK227.out (by decide)) (fun _ hk => hk.2) (.slice Ao23 y229.length co23)) (fun _ hk => trivial)⟩, ⟨by (with_reducible repeat (first | refine blk_drewN ?_ _ | refine blk_drew ?_ | refine blk_alloc ?_ _)); refine blk_far ?_ NB226_227.out _; (with_reducible repeat (first | refine blk_drewN ?_ _ | refine blk_drew ?_ | refine blk_alloc ?_ _)); exact BK226.out⟩, ⟨by (with_reducible repeat (first | refine blk_drewN ?_ _ | refine blk_drew ?_ | refine blk_alloc ?_ _)); refine blk_put (cs := #[u228000, .int .i64 0]) ?_ 0 _ rfl; (with_reducible repeat (first | refine blk_drewN ?_ _ | refine blk_drew ?_ | refine blk_alloc ?_ _)); exact BK227.out⟩, ⟨bl2_ HB GE226 GE227⟩⟩
         ·rw [if_neg c18] at H
          exact absurd H (by simp)
        ·replace c17 := Bool.eq_false_iff.mpr c17
         subst c17
         have H1 : (if a0_0 ≤ 2 then (if x228000_2.length < 17592186044416 then (basculelaw07_answer.l0 k2 a1 (wrap64 (x6_2 + 1)) a0_0 a0_1 a0_2 l0_3 a0_4 a0_5 a0_6 (x228000_2 ++ [Int.tmod a1 2]) 0) else (none)) else (if x228000_2.length < 17592186044416 then (basculelaw07_answer.l0 k2 a1 (wrap64 (x6_2 + 1)) a0_0 a0_1 a0_2 l0_3 a0_4 a0_5 a0_6 (x228000_2 ++ [Int.tmod a1 65536]) 0) else (none))) = some r := by rw [if_neg (show ¬ (false = true) by decide)] at H; exact H
         clear H
         have H := H1
         clear H1
         by_cases c25 : a0_0 ≤ 2
         ·rw [if_pos c25] at H
          have c25b0 : decide (a0_0 ≤ 2) = true := decide_eq_true c25
          clear c25
          by_cases c26 : x228000_2.length < 17592186044416
          ·rw [if_pos c26] at H
           have LMc26 := Aside0.mk c26
           clear c26
           obtain ⟨y232, hy232⟩ : ∃ y_ : List Int, y_ = (x228000_2 ++ [Int.tmod a1 2]) := ⟨_, rfl⟩
           replace H : (basculelaw07_answer.l0 k2 a1 (wrap64 (x6_2 + 1)) a0_0 a0_1 a0_2 l0_3 a0_4 a0_5 a0_6 y232 0) = some r := by first | (rw [hy232]; with_reducible exact H) | (have H2_ := (Option.bind_some _ _).symm.trans H; rw [hy232]; with_reducible exact H2_) | (have H2_ := (Option.bind_some _ _).symm.trans H; with_reducible exact H2_) | with_reducible exact H | (rw [hy232]; exact H) | exact H
           have Ny232 := Aside0.mk hy232
           clear hy232
           have H' := Aside0.mk H
           clear H
           have hnb27 := NB226_227.out
           have hnc27 := NB227_226.out
           refine cz7_ BK226.out ?_; intro hcz28_0 hcz28_1 hcz28_2 hcz28_3 hcz28_4 hcz28_5 hcz28_6 hfz28_0 hfz28_1 hfz28_2 hfz28_3 hfz28_4 hfz28_5 hfz28_6
           go_wp2_with (first | ((with_reducible refine gate_callee (f := 36) rfl ?_); refine goesL_ (some 30) rfl rfl Try.func36 (by kernel_rfl) rfl #[.int .i64 a0_0] rfl ar_ ?_; (with_reducible refine (basculeref03_Bit.calls a0_0 false _ A16.out).mono ?_); rintro e w' ⟨rfl, ⟨nd, rfl⟩⟩; refine ⟨_, rfl, ?_⟩; (try (rw [drewN_self wr]; generalize hq_ : World.drewN wr _ = wr; have n0_ : Aside0 (Kd.R (Kd.int .i64) 3 wr w.heap.size (fun _ => True) u228000 x228000_2) := ⟨by rw [← hq_]; exact (kr_ HO_228000)⟩; have n1_ : Aside0 (wr.heap[gb226]? = some (.cells #[.int .i64 a0_0, .int .i64 a0_1, .int .i64 a0_2, .slice A0_3 l0_3.length c0_3, .int .i64 a0_4, .int .i64 a0_5, .int .i64 a0_6] 31 (0, 0))) := ⟨by rw [← hq_]; exact (bk_ BK226)⟩; have n2_ : Aside0 (wr.heap[gb227]? = some (.cells #[u228000, .int .i64 0] 46 (0, 0))) := ⟨by rw [← hq_]; exact (bk_ BK227)⟩; have n3_ : Aside0 (Below w.heap.size w wr) := ⟨by rw [← hq_]; exact (bl2_ HB GE226 GE227)⟩; clear HO_228000 BK226 BK227 HB hq_; have HO_228000 := n0_; have BK226 := n1_; have BK227 := n2_; have HB := n3_; clear n0_ n1_ n2_ n3_)); refine cz2_ BK227.out ?_; intro hcz29_0 hcz29_1 hfz29_0 hfz29_1; have hcy_0 : wr.cell? ⟨gb226, 0, none⟩ = some (.int .i64 a0_0) := (blk_cell BK226.out 0).trans rfl; have hfy_0 := blk_frozen BK226.out 0) | ((with_reducible refine gate_builtin (b := .append) (xs := #[.tmp 39, .tmp 41]) rfl ?_); at_builtin; refine Kd.R_append (Kd.int .i64) (w0 := w) w.heap.size rfl (.tmp 39) (.tmp 41) 29 3 (.int .i64 0) 8 rfl Try.underlying29 info3 rfl (by decide) (by omega) u228000 x228000_2 (Int.tmod a1 2) [.int .i64 (Int.tmod a1 2)] (fun _ => True) (fun _ => False) rfl rfl ?aP (fun _ hk => hk.elim) ?aF ?aO ?aB ?aS ?aL ?_; (case aP => exact rfl); (case aB => exact (bl2_ HB GE226 GE227)); (case aF => exact (fun _ _ => trivial)); (case aO => exact (kr_ HO_228000)); (case aS => exact (below_size (bl2_ HB GE226 GE227))); (case aL => have := LMc26.out; omega); intro v233 w30 ho hb hg hat; rw [← Ny232.out] at ho; have n0_ := Aside0.mk (blk_grown (g := gb226) (bk_ BK226) hg (Kd.R_ne HO_228000.out BK226.out (by decide))); have n1_ := Aside0.mk (blk_grown (g := gb227) (bk_ BK227) hg (Kd.R_ne HO_228000.out BK227.out (by decide))); have n2_ := Aside0.mk (hb); have n3_ := Aside0.mk (ho); clear BK226; clear BK227; clear HB; clear HO_228000; have BK226 := n0_; have BK227 := n1_; have HB := n2_; have HO234 := n3_; clear n0_ n1_ n2_ n3_; clear ho hb hg hat; obtain ⟨Ao31, co31, eo31⟩ := Kd.R_slice HO234.out; subst eo31; refine cz2_ BK227.out ?_; intro hcz32_0 hcz32_1 hfz32_0 hfz32_1))
           go_roundg k2
           case measure => have := HJ3.out; have := HK2.out; omega
           case rel => exact ⟨(wrap64 (x6_2 + 1)), (y232), (.slice Ao31 y232.length co31), (by first | rfl | (simp; done) | (simp [*]; done)), H', ⟨by have := HJ3.out; have := HK2.out; omega⟩, ⟨by (with_reducible repeat (first | apply Kd.R_alloc | apply Kd.R_drewN | apply Kd.R_drew)); exact Kd.R_mono (Kd.R_far (p := ⟨gb227, 0, none⟩) (Kd.R_types HO234.out BK227.out (by decide)) (fun _ hk => hk.2) (.slice Ao31 y232.length co31)) (fun _ hk => trivial)⟩, ⟨by (with_reducible repeat (first | refine blk_drewN ?_ _ | refine blk_drew ?_ | refine blk_alloc ?_ _)); refine blk_far ?_ NB226_227.out _; (with_reducible repeat (first | refine blk_drewN ?_ _ | refine blk_drew ?_ | refine blk_alloc ?_ _)); exact BK226.out⟩, ⟨by (with_reducible repeat (first | refine blk_drewN ?_ _ | refine blk_drew ?_ | refine blk_alloc ?_ _)); refine blk_put (cs := #[u228000, .int .i64 0]) ?_ 0 _ rfl; (with_reducible repeat (first | refine blk_drewN ?_ _ | refine blk_drew ?_ | refine blk_alloc ?_ _)); exact BK227.out⟩, ⟨bl2_ HB GE226 GE227⟩⟩
          ·rw [if_neg c26] at H
           exact absurd H (by simp)
         ·rw [if_neg c25] at H
          have c25b0 : decide (a0_0 ≤ 2) = false := decide_eq_false c25
          clear c25
          by_cases c33 : x228000_2.length < 17592186044416
          ·rw [if_pos c33] at H
           have LMc33 := Aside0.mk c33
           clear c33
           obtain ⟨y235, hy235⟩ : ∃ y_ : List Int, y_ = (x228000_2 ++ [Int.tmod a1 65536]) := ⟨_, rfl⟩
           replace H : (basculelaw07_answer.l0 k2 a1 (wrap64 (x6_2 + 1)) a0_0 a0_1 a0_2 l0_3 a0_4 a0_5 a0_6 y235 0) = some r := by first | (rw [hy235]; with_reducible exact H) | (have H2_ := (Option.bind_some _ _).symm.trans H; rw [hy235]; with_reducible exact H2_) | (have H2_ := (Option.bind_some _ _).symm.trans H; with_reducible exact H2_) | with_reducible exact H | (rw [hy235]; exact H) | exact H
           have Ny235 := Aside0.mk hy235
           clear hy235
           have H' := Aside0.mk H
           clear H
           have hnb34 := NB226_227.out
           have hnc34 := NB227_226.out
           refine cz7_ BK226.out ?_; intro hcz35_0 hcz35_1 hcz35_2 hcz35_3 hcz35_4 hcz35_5 hcz35_6 hfz35_0 hfz35_1 hfz35_2 hfz35_3 hfz35_4 hfz35_5 hfz35_6
           go_wp2_with (first | ((with_reducible refine gate_callee (f := 36) rfl ?_); refine goesL_ (some 30) rfl rfl Try.func36 (by kernel_rfl) rfl #[.int .i64 a0_0] rfl ar_ ?_; (with_reducible refine (basculeref03_Bit.calls a0_0 false _ A16.out).mono ?_); rintro e w' ⟨rfl, ⟨nd, rfl⟩⟩; refine ⟨_, rfl, ?_⟩; (try (rw [drewN_self wr]; generalize hq_ : World.drewN wr _ = wr; have n0_ : Aside0 (Kd.R (Kd.int .i64) 3 wr w.heap.size (fun _ => True) u228000 x228000_2) := ⟨by rw [← hq_]; exact (kr_ HO_228000)⟩; have n1_ : Aside0 (wr.heap[gb226]? = some (.cells #[.int .i64 a0_0, .int .i64 a0_1, .int .i64 a0_2, .slice A0_3 l0_3.length c0_3, .int .i64 a0_4, .int .i64 a0_5, .int .i64 a0_6] 31 (0, 0))) := ⟨by rw [← hq_]; exact (bk_ BK226)⟩; have n2_ : Aside0 (wr.heap[gb227]? = some (.cells #[u228000, .int .i64 0] 46 (0, 0))) := ⟨by rw [← hq_]; exact (bk_ BK227)⟩; have n3_ : Aside0 (Below w.heap.size w wr) := ⟨by rw [← hq_]; exact (bl2_ HB GE226 GE227)⟩; clear HO_228000 BK226 BK227 HB hq_; have HO_228000 := n0_; have BK226 := n1_; have BK227 := n2_; have HB := n3_; clear n0_ n1_ n2_ n3_)); refine cz2_ BK227.out ?_; intro hcz36_0 hcz36_1 hfz36_0 hfz36_1; have hcy_0 : wr.cell? ⟨gb226, 0, none⟩ = some (.int .i64 a0_0) := (blk_cell BK226.out 0).trans rfl; have hfy_0 := blk_frozen BK226.out 0) | ((with_reducible refine gate_builtin (b := .append) (xs := #[.tmp 39, .tmp 41]) rfl ?_); at_builtin; refine Kd.R_append (Kd.int .i64) (w0 := w) w.heap.size rfl (.tmp 39) (.tmp 41) 29 3 (.int .i64 0) 8 rfl Try.underlying29 info3 rfl (by decide) (by omega) u228000 x228000_2 (Int.tmod a1 65536) [.int .i64 (Int.tmod a1 65536)] (fun _ => True) (fun _ => False) rfl rfl ?aP (fun _ hk => hk.elim) ?aF ?aO ?aB ?aS ?aL ?_; (case aP => exact rfl); (case aB => exact (bl2_ HB GE226 GE227)); (case aF => exact (fun _ _ => trivial)); (case aO => exact (kr_ HO_228000)); (case aS => exact (below_size (bl2_ HB GE226 GE227))); (case aL => have := LMc33.out; omega); intro v236 w37 ho hb hg hat; rw [← Ny235.out] at ho; have n0_ := Aside0.mk (blk_grown (g := gb226) (bk_ BK226) hg (Kd.R_ne HO_228000.out BK226.out (by decide))); have n1_ := Aside0.mk (blk_grown (g := gb227) (bk_ BK227) hg (Kd.R_ne HO_228000.out BK227.out (by decide))); have n2_ := Aside0.mk (hb); have n3_ := Aside0.mk (ho); clear BK226; clear BK227; clear HB; clear HO_228000; have BK226 := n0_; have BK227 := n1_; have HB := n2_; have HO237 := n3_; clear n0_ n1_ n2_ n3_; clear ho hb hg hat; obtain ⟨Ao38, co38, eo38⟩ := Kd.R_slice HO237.out; subst eo38; refine cz2_ BK227.out ?_; intro hcz39_0 hcz39_1 hfz39_0 hfz39_1))
           go_roundg k2
           case measure => have := HJ3.out; have := HK2.out; omega
           case rel => exact ⟨(wrap64 (x6_2 + 1)), (y235), (.slice Ao38 y235.length co38), (by first | rfl | (simp; done) | (simp [*]; done)), H', ⟨by have := HJ3.out; have := HK2.out; omega⟩, ⟨by (with_reducible repeat (first | apply Kd.R_alloc | apply Kd.R_drewN | apply Kd.R_drew)); exact Kd.R_mono (Kd.R_far (p := ⟨gb227, 0, none⟩) (Kd.R_types HO237.out BK227.out (by decide)) (fun _ hk => hk.2) (.slice Ao38 y235.length co38)) (fun _ hk => trivial)⟩, ⟨by (with_reducible repeat (first | refine blk_drewN ?_ _ | refine blk_drew ?_ | refine blk_alloc ?_ _)); refine blk_far ?_ NB226_227.out _; (with_reducible repeat (first | refine blk_drewN ?_ _ | refine blk_drew ?_ | refine blk_alloc ?_ _)); exact BK226.out⟩, ⟨by (with_reducible repeat (first | refine blk_drewN ?_ _ | refine blk_drew ?_ | refine blk_alloc ?_ _)); refine blk_put (cs := #[u228000, .int .i64 0]) ?_ 0 _ rfl; (with_reducible repeat (first | refine blk_drewN ?_ _ | refine blk_drew ?_ | refine blk_alloc ?_ _)); exact BK227.out⟩, ⟨bl2_ HB GE226 GE227⟩⟩
          ·rw [if_neg c33] at H
           exact absurd H (by simp)
       ·rw [if_neg c15] at H
        have c15b0 : decide (x6_2 < a0_2) = false := decide_eq_false c15
        clear c15
        replace H := Option.bind_eq_some_iff.mp H
        obtain ⟨t238, A400, H⟩ := H
        replace H : (some t238) = some r := H
        have A40 := Aside0.mk A400
        clear A400
        obtain rfl := Option.some.inj H
        have hnb41 := NB226_227.out
        have hnc41 := NB227_226.out
        refine cz7_ BK226.out ?_; intro hcz42_0 hcz42_1 hcz42_2 hcz42_3 hcz42_4 hcz42_5 hcz42_6 hfz42_0 hfz42_1 hfz42_2 hfz42_3 hfz42_4 hfz42_5 hfz42_6
        refine cz2_ BK227.out ?_; intro hcz43_0 hcz43_1 hfz43_0 hfz43_1
        obtain ⟨Ao44, co44, eo44⟩ := Kd.R_slice HO_228000.out
        subst eo44
        go_wp2_with (first | ((with_reducible refine gate_callee (f := 37) rfl ?_); refine goesL_ (some 46) rfl rfl Try.func37 (by kernel_rfl) rfl #[.agg #[.int .i64 a0_0, .int .i64 a0_1, .int .i64 a0_2, .slice A0_3 l0_3.length c0_3, .int .i64 a0_4, .int .i64 a0_5, .int .i64 a0_6], .agg #[.slice Ao44 x228000_2.length co44, .int .i64 0]] rfl ar_ ?_; (with_reducible refine (basculeref03_AnswerBytes.calls k2 a0_0 a0_1 a0_2 _ _ l0_3 a0_4 a0_5 a0_6 _ _ x228000_2 0 t238 _ ?side1 ?side2 ?side3 ?side4 A40.out).mono ?_); (case side1 => exact sc_ (Kd.C_below HR0_3.out HB.out)); (case side2 => exact HC0_3.out); (case side3 => exact sc_ (Kd.R_reads' HO_228000.out).2.2); (case side4 => exact (Kd.R_reads' HO_228000.out).2.1); rintro e w45 ⟨v239, rfl, ho0, hb⟩; refine ⟨_, rfl, ?_⟩; have n0_ := Aside0.mk (Kd.R_below (kr_ HO_228000) hb); have n1_ := Aside0.mk (Kd.R_lower ho0 (below_size (bl2_ HB GE226 GE227))); have n2_ := Aside0.mk (blk_below (g := gb226) (bk_ BK226) hb); have n3_ := Aside0.mk (blk_below (g := gb227) (bk_ BK227) hb); have n4_ := Aside0.mk (below_step (bl2_ HB GE226 GE227) hb); clear HO_228000; clear BK226; clear BK227; clear HB; have HO_228000 := n0_; have HO240 := n1_; have BK226 := n2_; have BK227 := n3_; have HB := n4_; clear n0_ n1_ n2_ n3_ n4_; (try clear hb); (try clear hb2); (try clear hk); (try clear hi); (try clear ho0)))
        go_ret
        exact ⟨_, er_, kr_ HO240, bl2_ HB GE226 GE227⟩
    ·replace c14 := Bool.eq_false_iff.mpr c14
     subst c14
     have H1 : ((basculeref03_AnswerBytes.f kj3 a0_0 a0_1 a0_2 l0_3 a0_4 a0_5 a0_6 ([] : List Int) 0).bind fun t241 => (some t241)) = some r := by rw [if_neg (show ¬ (false = true) by decide)] at H; exact H
     clear H
     have H := H1
     clear H1
     replace H := Option.bind_eq_some_iff.mp H
     obtain ⟨t241, A460, H⟩ := H
     replace H : (some t241) = some r := H
     have A46 := Aside0.mk A460
     clear A460
     obtain rfl := Option.some.inj H
     have hnb47 := NB226_227.out
     have hnc47 := NB227_226.out
     refine cz7_ BK226.out ?_; intro hcz48_0 hcz48_1 hcz48_2 hcz48_3 hcz48_4 hcz48_5 hcz48_6 hfz48_0 hfz48_1 hfz48_2 hfz48_3 hfz48_4 hfz48_5 hfz48_6
     refine cz2_ BK227.out ?_; intro hcz49_0 hcz49_1 hfz49_0 hfz49_1
     go_wp2_with (first | ((with_reducible refine gate_callee (f := 37) rfl ?_); refine goesL_ (some 46) rfl rfl Try.func37 (by kernel_rfl) rfl #[.agg #[.int .i64 a0_0, .int .i64 a0_1, .int .i64 a0_2, .slice A0_3 l0_3.length c0_3, .int .i64 a0_4, .int .i64 a0_5, .int .i64 a0_6], .agg #[.slice none 0 0, .int .i64 0]] rfl ar_ ?_; (refine (basculeref03_AnswerBytes.calls kj3 a0_0 a0_1 a0_2 _ _ l0_3 a0_4 a0_5 a0_6 _ _ ([] : List Int) 0 t241 _ ?side1 ?side2 ?side3 ?side4 A46.out).mono ?_); (case side1 => exact sc_ (Kd.C_below HR0_3.out HB.out)); (case side2 => exact HC0_3.out); (case side3 => exact Kd.C_nil _ _); (case side4 => exact Nat.le_refl _); rintro e w50 ⟨v242, rfl, ho0, hb⟩; refine ⟨_, rfl, ?_⟩; have n0_ := Aside0.mk (Kd.R_lower ho0 (below_size (bl2_ HB GE226 GE227))); have n1_ := Aside0.mk (blk_below (g := gb226) (bk_ BK226) hb); have n2_ := Aside0.mk (blk_below (g := gb227) (bk_ BK227) hb); have n3_ := Aside0.mk (below_step (bl2_ HB GE226 GE227) hb); clear BK226; clear BK227; clear HB; have HO243 := n0_; have BK226 := n1_; have BK227 := n2_; have HB := n3_; clear n0_ n1_ n2_ n3_; (try clear hb); (try clear hb2); (try clear hk); (try clear hi); (try clear ho0)))
     go_ret
     exact ⟨_, er_, kr_ HO243, bl2_ HB GE226 GE227⟩
 ·rw [if_neg c3] at H
  have c3b0 : decide (0 ≤ a1) = false := decide_eq_false c3
  clear c3
  replace H := Option.bind_eq_some_iff.mp H
  obtain ⟨t244, A510, H⟩ := H
  replace H : (some t244) = some r := H
  have A51 := Aside0.mk A510
  clear A510
  obtain rfl := Option.some.inj H
  go_enter Try.func15, Try.ntmps15
  go_wp2_with (first | ((with_reducible refine gate_dst (N := 2) rfl ?_); refine bx_ (N := 2) (cs := #[.int .i64 a0_0, .int .i64 a0_1, .int .i64 a0_2, .slice A0_3 l0_3.length c0_3, .int .i64 a0_4, .int .i64 a0_5, .int .i64 a0_6]) (t := 31) ?_; intro gb226 hg w52 hbox hb; have n0_ := Aside0.mk (below_step (bl0_ HB) hb); have n1_ := Aside0.mk (hbox); have n2_ := Aside0.mk ((by rw [hg]; exact (below_size (bl0_ HB)) : w.heap.size ≤ gb226)); have n3_ := Aside0.mk ((by rw [hg]; exact (below_size (bl0_ HB)) : w.heap.size ≤ gb226)); clear HB; have HB := n0_; have BK226 := n1_; have GW226 := n2_; have GE226 := n3_; clear n0_ n1_ n2_ n3_; clear hb hbox hg) | ((with_reducible refine gate_dst (N := 5) rfl ?_); refine bx_ (N := 5) (cs := #[.slice none 0 0, .int .i64 0]) (t := 46) ?_; intro gb227 hg w53 hbox hb; have n0_ := Aside0.mk (blk_below (g := gb226) (bk_ BK226) hb); have n1_ := Aside0.mk (below_step (bl1_ HB GE226) hb); have n2_ := Aside0.mk (hbox); have n3_ := Aside0.mk ((by rw [hg]; exact (below_size (bl1_ HB GE226)) : w.heap.size ≤ gb227)); have n4_ := Aside0.mk ((by rw [hg]; exact (below_size (bl1_ HB GE226)) : w.heap.size ≤ gb227)); have n5_ := Aside0.mk ((by rw [hg]; exact Nat.ne_of_lt (blk_lt (g := gb226) (bk_ BK226)) : gb226 ≠ gb227)); have n6_ := Aside0.mk ((by rw [hg]; exact Nat.ne_of_gt (blk_lt (g := gb226) (bk_ BK226)) : gb227 ≠ gb226)); clear BK226; clear HB; have BK226 := n0_; have HB := n1_; have BK227 := n2_; have GW227 := n3_; have GE227 := n4_; have NB226_227 := n5_; have NB227_226 := n6_; clear n0_ n1_ n2_ n3_ n4_ n5_ n6_; clear hb hbox hg; have hnb54 := NB227_226.out; have hnc54 := NB226_227.out; refine cz2_ BK227.out ?_; intro hcz55_0 hcz55_1 hfz55_0 hfz55_1; refine cz7_ BK226.out ?_; intro hcz56_0 hcz56_1 hcz56_2 hcz56_3 hcz56_4 hcz56_5 hcz56_6 hfz56_0 hfz56_1 hfz56_2 hfz56_3 hfz56_4 hfz56_5 hfz56_6) | ((with_reducible refine gate_callee (f := 37) rfl ?_); refine goesL_ (some 46) rfl rfl Try.func37 (by kernel_rfl) rfl #[.agg #[.int .i64 a0_0, .int .i64 a0_1, .int .i64 a0_2, .slice A0_3 l0_3.length c0_3, .int .i64 a0_4, .int .i64 a0_5, .int .i64 a0_6], .agg #[.slice none 0 0, .int .i64 2]] rfl ar_ ?_; (refine (basculeref03_AnswerBytes.calls k a0_0 a0_1 a0_2 _ _ l0_3 a0_4 a0_5 a0_6 _ _ ([] : List Int) 2 t244 _ ?side1 ?side2 ?side3 ?side4 A51.out).mono ?_); (case side1 => exact Kd.C_below HR0_3.out (bl2_ HB GE226 GE227)); (case side2 => exact HC0_3.out); (case side3 => exact Kd.C_nil _ _); (case side4 => exact Nat.le_refl _); rintro e w57 ⟨v245, rfl, ho0, hb⟩; refine ⟨_, rfl, ?_⟩; have n0_ := Aside0.mk (Kd.R_lower ho0 (below_size (bl2_ HB GE226 GE227))); have n1_ := Aside0.mk (blk_below (g := gb226) (o := .cells #[.int .i64 a0_0, .int .i64 a0_1, .int .i64 a0_2, .slice A0_3 l0_3.length c0_3, .int .i64 a0_4, .int .i64 a0_5, .int .i64 a0_6] 31 (0, 0)) (by (with_reducible repeat (first | refine blk_drewN ?_ _ | refine blk_drew ?_ | refine blk_alloc ?_ _)); refine blk_far ?_ NB226_227.out _; (with_reducible repeat (first | refine blk_drewN ?_ _ | refine blk_drew ?_ | refine blk_alloc ?_ _)); refine blk_far ?_ NB226_227.out _; (with_reducible repeat (first | refine blk_drewN ?_ _ | refine blk_drew ?_ | refine blk_alloc ?_ _)); exact BK226.out) hb); have n2_ := Aside0.mk (blk_below (g := gb227) (o := .cells #[.slice none 0 0, .int .i64 2] 46 (0, 0)) (by (with_reducible repeat (first | refine blk_drewN ?_ _ | refine blk_drew ?_ | refine blk_alloc ?_ _)); refine blk_put (cs := #[.slice none 0 0, .int .i64 0]) ?_ 1 _ rfl; (with_reducible repeat (first | refine blk_drewN ?_ _ | refine blk_drew ?_ | refine blk_alloc ?_ _)); refine blk_put (cs := #[.slice none 0 0, .int .i64 0]) ?_ 0 _ rfl; (with_reducible repeat (first | refine blk_drewN ?_ _ | refine blk_drew ?_ | refine blk_alloc ?_ _)); exact BK227.out) hb); have n3_ := Aside0.mk (below_step (bl2_ HB GE226 GE227) hb); clear BK226; clear BK227; clear HB; have HO246 := n0_; have BK226 := n1_; have BK227 := n2_; have HB := n3_; clear n0_ n1_ n2_ n3_; (try clear hb); (try clear hb2); (try clear hk); (try clear hi); (try clear ho0)))
  go_ret
  exact ⟨_, er_, kr_ HO246, bl2_ HB GE226 GE227⟩
end Go.Proofs.Ytlalpooiegganaa.PK
end

section
namespace Go.Proofs.Ytlalpooiegganaa.Mth
open Go.RowKit Go.Proofs.YtlalpooiegganaaW.PrintWords Go.Proofs.YtlalpooiegganaaW.PrintLast Go.Proofs.YtlalpooiegganaaW.PrintMore Go.Proofs.Ytlalpooiegganaa.ExtF Go.Proofs.Ytlalpooiegganaa.PG Go.Proofs.Ytlalpooiegganaa.ExtM Go.Proofs.Ytlalpooiegganaa.MathP
set_option linter.unusedVariables false
set_option linter.unusedSimpArgs false
def ansN (f v : Int) : Int := if f = 1 ∨ f = 2 then v % 2 else v % 65536
def ansV (f c v : Int) : List Int × Int := if v < 0 then ([], 2) else if f ≤ 4 ∨ f = 23 then (List.replicate c.toNat (ansN f v), 0) else ([], 0)
theorem ansN_bit {f v : Int} (h : f = 1 ∨ f = 2) : ansN f v = 0 ∨ ansN f v = 1 := by
 unfold ansN; rw [if_pos h]; omega
theorem ansN_word {f v : Int} : 0 ≤ ansN f v ∧ ansN f v ≤ 65535 := by
 unfold ansN; split <;> omega
theorem ansV_may {f a c : Int} {l : List Int} {o n r : Int} (h : mayB f a c l o n r = true) (v : Int) : ansMayB f c (ansV f c v).1 (ansV f c v).2 = true := by
 have I := may_is h
 have hf := I.fns
 unfold ansV ansMayB
 by_cases h0 : v < 0
 ·rw [if_pos h0, if_neg (by decide)]; rfl
 ·rw [if_neg h0]
  by_cases h1 : f ≤ 4 ∨ f = 23
  ·rw [if_pos h1, if_pos rfl]
   have hc := I.cnt (by omega)
   have hl : ((List.replicate c.toNat (ansN f v)).length : Int) = c := by rw [List.length_replicate]; omega
   by_cases h2 : f = 1 ∨ f = 2
   ·rw [if_pos h2, decide_eq_true hl, decide_eq_true (show Bits (List.replicate c.toNat (ansN f v)) from fun x hx => by rw [(List.mem_replicate.1 hx).2]; exact ansN_bit h2)]; rfl
   ·rw [if_neg h2, if_pos (by omega), decide_eq_true hl, decide_eq_true (show Words (List.replicate c.toNat (ansN f v)) from fun x hx => by rw [(List.mem_replicate.1 hx).2]; exact ansN_word)]; rfl
  ·rw [if_neg h1, if_pos rfl, if_neg (by omega), if_neg (by omega)]; rfl
theorem ansV_len {f a c : Int} {l : List Int} {o n r : Int} (h : mayB f a c l o n r = true) (v : Int) : (ansV f c v).1.length ≤ 125 ∨ (f = 1 ∨ f = 2) ∧ (ansV f c v).1.length ≤ 2000 := by
 have I := may_is h
 have hf := I.fns
 unfold ansV
 by_cases h0 : v < 0
 ·rw [if_pos h0]; exact .inl (Nat.zero_le _)
 ·rw [if_neg h0]
  by_cases h1 : f ≤ 4 ∨ f = 23
  ·rw [if_pos h1]
   have hc := I.cnt (by omega)
   have hr := I.regs
   show (List.replicate c.toNat (ansN f v)).length ≤ 125 ∨ (f = 1 ∨ f = 2) ∧ (List.replicate c.toNat (ansN f v)).length ≤ 2000
   rw [List.length_replicate]
   by_cases h2 : f = 1 ∨ f = 2
   ·exact .inr ⟨h2, by omega⟩
   ·exact .inl (by have := hr (by omega); omega)
  ·rw [if_neg h1]; exact .inl (Nat.zero_le _)
theorem ans_l0 (f a c : Int) (l : List Int) (o n r v : Int) (hf : f = 1 ∨ f = 2 ∨ f = 3 ∨ f = 4 ∨ f = 23) (hv : 0 ≤ v) (hc : 1 ≤ c ∧ c ≤ 2000) (out : List Int) (hK : ∀ k, 20000 ≤ k → basculeref03_AnswerBytes.f k f a c l o n r (List.replicate c.toNat (ansN f v)) 0 = some out) : ∀ (d i k : Nat), i + d = c.toNat → d + 20001 ≤ k →
 PK.basculelaw07_answer.l0 k v (i : Int) f a c l o n r (List.replicate i (ansN f v)) 0 = some out
 | 0, i, k, hi, hk => by
  obtain ⟨k, rfl⟩ := Nat.exists_eq_add_of_le' (show 1 ≤ k by omega)
  rw [PK.basculelaw07_answer.l0, if_neg (by omega), show i = c.toNat by omega, hK k (by omega)]
  rfl
 | d + 1, i, k, hi, hk => by
  obtain ⟨k, rfl⟩ := Nat.exists_eq_add_of_le' (show 1 ≤ k by omega)
  have hw : wrap64 ((i : Int) + 1) = ((i + 1 : Nat) : Int) := by unfold wrap64; omega
  have ih := ans_l0 f a c l o n r v hf hv hc out hK d (i + 1) k (by omega) (by omega)
  have hlen : (List.replicate i (ansN f v)).length < 17592186044416 := by rw [List.length_replicate]; omega
  have happ : ∀ y, ansN f v = y → List.replicate i (ansN f v) ++ [y] = List.replicate (i + 1) (ansN f v) := fun y hy => by rw [← hy, List.replicate_succ']
  have t2 : Int.tmod v 2 = v % 2 := Int.tmod_eq_emod_of_nonneg hv
  have t6 : Int.tmod v 65536 = v % 65536 := Int.tmod_eq_emod_of_nonneg hv
  rw [PK.basculelaw07_answer.l0, if_pos (by omega), t2, t6, hw]
  rcases hf with rfl | rfl | rfl | rfl | rfl
  ·rw [show PK.basculeref03_Bit.f 1 = some true from rfl, Option.bind_some, if_pos rfl, if_pos hlen, happ (v % 2) (by simp [ansN]), ih]
  ·rw [show PK.basculeref03_Bit.f 2 = some true from rfl, Option.bind_some, if_pos rfl, if_pos hlen, happ (v % 2) (by simp [ansN]), ih]
  ·rw [show PK.basculeref03_Bit.f 3 = some false from rfl, Option.bind_some, if_neg (by decide), if_neg (by decide), if_pos hlen, happ (v % 65536) (by simp [ansN]), ih]
  ·rw [show PK.basculeref03_Bit.f 4 = some false from rfl, Option.bind_some, if_neg (by decide), if_neg (by decide), if_pos hlen, happ (v % 65536) (by simp [ansN]), ih]
  ·rw [show PK.basculeref03_Bit.f 23 = some false from rfl, Option.bind_some, if_neg (by decide), if_neg (by decide), if_pos hlen, happ (v % 65536) (by simp [ansN]), ih]
theorem answer_f (k : Nat) (hk : 40000 ≤ k) {f a c : Int} {l : List Int} {o n r : Int} (h : mayB f a c l o n r = true) (v : Int) :
 PK.basculelaw07_answer.f k f a c l o n r v = some (ansB f a c l o n r (ansV f c v).1 (ansV f c v).2) := by
 have I := may_is h
 have hf := I.fns
 have hm := ansV_may h v
 have hlen := ansV_len h v
 have hK : ∀ k, 20000 ≤ k → basculeref03_AnswerBytes.f k f a c l o n r (ansV f c v).1 (ansV f c v).2 = some (ansB f a c l o n r (ansV f c v).1 (ansV f c v).2) := fun k hk => ransbytes_yes k f a c l o n r _ _ hk h hm (by omega)
 obtain ⟨k, rfl⟩ := Nat.exists_eq_add_of_le' (show 1 ≤ k by omega)
 unfold PK.basculelaw07_answer.f
 by_cases h0 : v < 0
 ·have e : ansV f c v = ([], 2) := by unfold ansV; rw [if_pos h0]
  rw [e] at hK ⊢
  rw [if_neg (show ¬ v ≥ 0 by omega), hK _ (by omega)]
  rfl
 ·rw [if_pos (show v ≥ 0 by omega)]
  by_cases h1 : f ≤ 4 ∨ f = 23
  ·have e : ansV f c v = (List.replicate c.toNat (ansN f v), 0) := by unfold ansV; rw [if_neg h0, if_pos h1]
   rw [e] at hK ⊢
   have hc := I.cnt (by omega)
   have hl := ans_l0 f a c l o n r v (by omega) (by omega) hc _ hK c.toNat 0 k (by omega) (by omega)
   have hj : PK.basculelaw07_answer.j0 (k + 1) v true f a c l o n r 0 = some (ansB f a c l o n r (List.replicate c.toNat (ansN f v)) 0) := by
    rw [PK.basculelaw07_answer.j0, if_pos rfl]
    exact hl
   by_cases h4 : f ≤ 4
   ·rw [if_pos h4]; exact hj
   ·rw [if_neg h4, show (f == 23) = true from beq_iff_eq.2 (by omega)]; exact hj
  ·have e : ansV f c v = ([], 0) := by unfold ansV; rw [if_neg h0, if_neg h1]
   rw [e] at hK ⊢
   rw [if_neg (show ¬ f ≤ 4 by omega), show (f == 23) = false from beq_eq_false_iff_ne.2 (by omega), PK.basculelaw07_answer.j0, if_neg (by decide), hK k (by omega)]
   rfl
end Go.Proofs.Ytlalpooiegganaa.Mth
end

section
namespace Go.Proofs.Ytlalpooiegganaa.MsgH
open Go.RowKit Go.Proofs.YtlalpooiegganaaW.PrintWords Go.Proofs.YtlalpooiegganaaW.PrintLast Go.Proofs.YtlalpooiegganaaW.PrintMore Go.Proofs.Ytlalpooiegganaa.Core Go.Proofs.Ytlalpooiegganaa.Wk Go.Proofs.Ytlalpooiegganaa.PMasterWaits Go.Proofs.Ytlalpooiegganaa.Msg Go.Proofs.Ytlalpooiegganaa.MsgB Go.Proofs.Ytlalpooiegganaa.MsgC Go.Proofs.Ytlalpooiegganaa.MsgD Go.Proofs.Ytlalpooiegganaa.MsgE Go.Proofs.Ytlalpooiegganaa.MsgG
set_option linter.unusedVariables false
set_option linter.unusedSimpArgs false
set_option maxHeartbeats 4000000 in
set_option maxRecDepth 100000 in
theorem read_c (w : World) : Calls Try.prog 17 #[] w fun e w' => e = .returned (.agg #[.int .i64 3, .int .i64 0, .int .i64 1, .slice none 0 0, .int .i64 0, .int .i64 0, .int .i64 0]) ∧ Below w.heap.size w w' := by
 have hu31 := Try.underlying31
 have HB := Aside0.mk (Below.refl w.heap.size w)
 go_enter Try.func17, Try.ntmps17
 go_wp2_with (first | ((with_reducible refine gate_dst (N := 0) rfl ?_); refine bx_ (N := 0) (cs := #[.int .i64 0, .int .i64 0, .int .i64 0, .slice none 0 0, .int .i64 0, .int .i64 0, .int .i64 0]) (t := 31) ?_; intro gb212 hg w1 hbox hb; have n0_ := Aside0.mk (below_step (bl0_ HB) hb); have n1_ := Aside0.mk (hbox); have n2_ := Aside0.mk ((by rw [hg]; exact (below_size (bl0_ HB)) : w.heap.size ≤ gb212)); have n3_ := Aside0.mk ((by rw [hg]; exact (below_size (bl0_ HB)) : w.heap.size ≤ gb212)); clear HB; have HB := n0_; have BK212 := n1_; have GW212 := n2_; have GE212 := n3_; clear n0_ n1_ n2_ n3_; clear hb hbox hg; refine cz7_ BK212.out ?_; intro hcz2_0 hcz2_1 hcz2_2 hcz2_3 hcz2_4 hcz2_5 hcz2_6 hfz2_0 hfz2_1 hfz2_2 hfz2_3 hfz2_4 hfz2_5 hfz2_6))
 refine bodyPost_ret (results_cell_row rfl _ _ gb212 31 #[.int .i64 3, .int .i64 0, .int .i64 1, .slice none 0 0, .int .i64 0, .int .i64 0, .int .i64 0] (0, 0) _ rfl (by (with_reducible repeat (first | refine blk_drewN ?_ _ | refine blk_drew ?_ | refine blk_alloc ?_ _)); refine blk_put (cs := #[.int .i64 3, .int .i64 0, .int .i64 1, .slice none 0 0, .int .i64 0, .int .i64 0, .int .i64 0]) ?_ 6 _ rfl; (with_reducible repeat (first | refine blk_drewN ?_ _ | refine blk_drew ?_ | refine blk_alloc ?_ _)); refine blk_put (cs := #[.int .i64 3, .int .i64 0, .int .i64 1, .slice none 0 0, .int .i64 0, .int .i64 0, .int .i64 0]) ?_ 5 _ rfl; (with_reducible repeat (first | refine blk_drewN ?_ _ | refine blk_drew ?_ | refine blk_alloc ?_ _)); refine blk_put (cs := #[.int .i64 3, .int .i64 0, .int .i64 1, .slice none 0 0, .int .i64 0, .int .i64 0, .int .i64 0]) ?_ 4 _ rfl; (with_reducible repeat (first | refine blk_drewN ?_ _ | refine blk_drew ?_ | refine blk_alloc ?_ _)); refine blk_put (cs := #[.int .i64 3, .int .i64 0, .int .i64 1, .slice none 0 0, .int .i64 0, .int .i64 0, .int .i64 0]) ?_ 3 _ rfl; (with_reducible repeat (first | refine blk_drewN ?_ _ | refine blk_drew ?_ | refine blk_alloc ?_ _)); refine blk_put (cs := #[.int .i64 3, .int .i64 0, .int .i64 0, .slice none 0 0, .int .i64 0, .int .i64 0, .int .i64 0]) ?_ 2 _ rfl; (with_reducible repeat (first | refine blk_drewN ?_ _ | refine blk_drew ?_ | refine blk_alloc ?_ _)); refine blk_put (cs := #[.int .i64 3, .int .i64 0, .int .i64 0, .slice none 0 0, .int .i64 0, .int .i64 0, .int .i64 0]) ?_ 1 _ rfl; (with_reducible repeat (first | refine blk_drewN ?_ _ | refine blk_drew ?_ | refine blk_alloc ?_ _)); refine blk_put (cs := #[.int .i64 0, .int .i64 0, .int .i64 0, .slice none 0 0, .int .i64 0, .int .i64 0, .int .i64 0]) ?_ 0 _ rfl; (with_reducible repeat (first | refine blk_drewN ?_ _ | refine blk_drew ?_ | refine blk_alloc ?_ _)); exact BK212.out) Try.underlying31 rfl (by kernel_rfl)) rfl ?_
 exact ⟨rfl, bl1_ HB GE212⟩
set_option maxHeartbeats 4000000 in
set_option maxRecDepth 100000 in
theorem new_b0 (w : World) (wait again rest : Int) (h : wait < 1) : Calls Try.prog 8 #[.int .i64 wait, .int .i64 again, .int .i64 rest] w fun e w' => e = .returned (.tuple #[.pointer none, .int .i64 1]) ∧ w = w' := by
 have s1 : decide (wait < 1) = true := decide_eq_true h
 clear h
 go_enter Try.func8, Try.ntmps8
 go_wp2
 go_ret2
 exact ⟨rfl, rfl⟩
set_option maxHeartbeats 4000000 in
set_option maxRecDepth 100000 in
theorem new_b1 (w : World) (wait again rest : Int) (h1 : 1 ≤ wait) (h : again < 0) : Calls Try.prog 8 #[.int .i64 wait, .int .i64 again, .int .i64 rest] w fun e w' => e = .returned (.tuple #[.pointer none, .int .i64 1]) ∧ w = w' := by
 have s1 : decide (wait < 1) = false := decide_eq_false (by omega)
 have s2 : decide (again < 0) = true := decide_eq_true h
 clear h1 h
 go_enter Try.func8, Try.ntmps8
 go_wp2
 go_ret2
 exact ⟨rfl, rfl⟩
set_option maxHeartbeats 4000000 in
set_option maxRecDepth 100000 in
theorem new_b2 (w : World) (wait again rest : Int) (h1 : 1 ≤ wait) (h2 : 0 ≤ again) (h : 16 < again) : Calls Try.prog 8 #[.int .i64 wait, .int .i64 again, .int .i64 rest] w fun e w' => e = .returned (.tuple #[.pointer none, .int .i64 1]) ∧ w = w' := by
 have s1 : decide (wait < 1) = false := decide_eq_false (by omega)
 have s2 : decide (again < 0) = false := decide_eq_false (by omega)
 have s3 : decide (16 < again) = true := decide_eq_true h
 clear h1 h2 h
 go_enter Try.func8, Try.ntmps8
 go_wp2
 go_ret2
 exact ⟨rfl, rfl⟩
set_option maxHeartbeats 4000000 in
set_option maxRecDepth 100000 in
theorem new_b3 (w : World) (wait again rest : Int) (h1 : 1 ≤ wait) (h2 : 0 ≤ again) (h3 : again ≤ 16) (h : rest < 0) : Calls Try.prog 8 #[.int .i64 wait, .int .i64 again, .int .i64 rest] w fun e w' => e = .returned (.tuple #[.pointer none, .int .i64 1]) ∧ w = w' := by
 have s1 : decide (wait < 1) = false := decide_eq_false (by omega)
 have s2 : decide (again < 0) = false := decide_eq_false (by omega)
 have s3 : decide (16 < again) = false := decide_eq_false (by omega)
 have s4 : decide (rest < 0) = true := decide_eq_true h
 clear h1 h2 h3 h
 go_enter Try.func8, Try.ntmps8
 go_wp2
 go_ret2
 exact ⟨rfl, rfl⟩
theorem new_bad (w : World) (wait again rest : Int) (h : ¬ (1 ≤ wait ∧ 0 ≤ again ∧ again ≤ 16 ∧ 0 ≤ rest)) : Calls Try.prog 8 #[.int .i64 wait, .int .i64 again, .int .i64 rest] w fun e w' => e = .returned (.tuple #[.pointer none, .int .i64 1]) ∧ w = w' := by
 by_cases h1 : wait < 1
 ·exact new_b0 w wait again rest h1
 by_cases h2 : again < 0
 ·exact new_b1 w wait again rest (by omega) h2
 by_cases h3 : 16 < again
 ·exact new_b2 w wait again rest (by omega) (by omega) h3
 exact new_b3 w wait again rest (by omega) (by omega) (by omega) (by omega)
theorem apart {B : Nat} {W : World} {g m ga : Nat} {s : MS} {cs : Array Value} {T : TypeId} (h : IsM B W g m s) (hb : W.heap[ga]? = some (.cells cs T (0, 0))) (hT : T ≠ 73) : ¬ Gm g m ga := by
 obtain ⟨vl, vo, h1, _⟩ := h.out
 obtain ⟨f, n, h2, _⟩ := h.mp
 intro e
 rcases e with e | e
 ·exact blk_ne hb h1 hT e
 ·exact cell_nm hb h2 e
theorem w01 : wrap64 (0 + 1) = 1 := by unfold wrap64; omega
theorem ck1 : Chk.chkB 3 0 1 [] 0 0 0 = true := by decide
theorem ask_a {B : Nat} {w : World} {g m : Nat} {wait again pause now times last : Int} {rest : Int → Int} {out : Option SV} (h : IsM B w g m ⟨wait, again, pause, now, 0, [], out, times, last, rest⟩) (hB : B ≤ w.heap.size) (unit : Int) (h0 : 0 ≤ unit) (h1 : unit ≤ 247) : Calls Try.prog 11 #[.pointer (some ⟨g, 0, none⟩), .int .i64 unit, .agg #[.int .i64 3, .int .i64 0, .int .i64 1, .slice none 0 0, .int .i64 0, .int .i64 0, .int .i64 0]] w fun e w' => ∃ A' k', e = .returned (.tuple #[.int .i64 1, .int .i64 0]) ∧ IRow w' A' 0 [] ∧ IsM B w' g m ⟨wait, again, pause, now, 1, [⟨1, unit, 3, 0, 1, A', 0, k', 0, 0, 0⟩], out, times, last, rest⟩ ∧ Ext (Mm B g m) w w' := by
 have h := ask_c (q := ⟨0, 0, 3, 0, 1, none, 0, 0, 0, 0, 0⟩) (vs := []) h hB unit h0 h1 (by simp) (Ever.nil (Kd.int .i64)) rfl (by simp) ck1
 rw [w01] at h
 exact h.mono (fun e w' ⟨A', k', h1, h2, h3, h4, h5, h6⟩ => ⟨A', k', h1, h3, h4, h5⟩)
theorem lit_V {W : World} {bb g : Nat} (h : W.heap[bb]? = some (.cells #[.int .u8 3, .int .u8 2, .int .u8 0, .int .u8 7] 5 (0, 0))) (hn : bb ≠ g) : Ever (fun k => k = g) W (fun W => Kd.C (Kd.int .u8) W (some ⟨bb, 0, none⟩) 4 [3, 2, 0, 7]) :=
 Ever.ofRow (xs := [3, 2, 0, 7]) (n := 0) h (by decide) hn
theorem ap1 : ∃ K, PG.pdu_AnswerParse.f K 3 0 1 [] 0 0 0 [3, 2, 0, 7] = some ([7], 0, 0) := ⟨60, by decide +kernel⟩
theorem irow1 {W : World} {A : Option Addr} {x : Int} (h : IRow W A 1 [x]) : ∃ gv, A = some ⟨gv, 0, none⟩ ∧ W.cell? ⟨gv, 0, none⟩ = some (.int .i64 x) := by
 obtain ⟨g, cur, e, hb, hc⟩ := h.2.2 (by omega)
 exact ⟨_, e, (blk_cell hb 0).trans (hc 0 (by omega))⟩
set_option maxHeartbeats 4000000 in
set_option maxRecDepth 100000 in
theorem awake_c (w : World) : Calls Try.prog 9 #[] w fun e w' => e = .returned (.bool true) ∧ Below w.heap.size w w' := by
 have hu39 := Try.underlying39; have hu48 := Try.underlying48; have hu46 := Try.underlying46
 go_enter Try.func9, Try.ntmps9
 go_wp2_with (first | (go_at_call 8; refine (new_c _ 10 1 50 (by decide) (by decide) (by decide) (by decide)).mono ?_; rintro e w1 ⟨g, m, rfl, hg, hm, hg1, hm1, HI1, HB1⟩; have HI : Aside0 (IsM w.heap.size w1 g m _) := ⟨HI1 w.heap.size⟩; have HB := Aside0.mk HB1; have HG := Aside0.mk hg; have HM := Aside0.mk hm; clear HI1 HB1 hg hm hg1 hm1) | (go_at_call 17; refine (read_c _).mono ?_; rintro e w2 ⟨rfl, HBc⟩; have HI2 := Aside0.mk (HI.out.below HBc); have HB2 : Aside0 (Below w.heap.size w w2) := ⟨below_step HB.out HBc⟩; clear HBc HI HB) | (go_at_call 11; refine (ask_a HI2.out HB2.out.size 1 (by decide) (by decide)).mono ?_; rintro e w3 ⟨A', k', rfl, hir, HIx, HX⟩; have HR3 := Aside0.mk hir; have HI3 := Aside0.mk HIx; have HB3 : Aside0 (Below w.heap.size w w3) := ⟨belowT HB2.out (extM HX HG.out HM.out (Nat.le_refl _) HB2.out.size)⟩; clear HIx HX HI2 HB2 hir) | (go_at_call 12; refine (MsgE.step_send (xs := []) HI3.out HB3.out.size 0 (by decide) (by decide) (by decide) (by decide) HR3.out (Nat.zero_le _)).mono ?_; rintro e w4 ⟨va, vd, rfl, A4, k4, ⟨ga, ca, rfl, hga⟩, hd, hk4, hr4, HIx, HX, HKx⟩; obtain rfl : vd = .slice none 0 0 := hd; have HR4 := Aside0.mk (HKx.row HR3.out); have HI4 := Aside0.mk HIx; have HB4 : Aside0 (Below w.heap.size w w4) := ⟨belowT HB3.out (extM (extG HX) HG.out HM.out (Nat.le_refl _) HB3.out.size)⟩; have BKa := Aside0.mk hga; clear HIx HX HI3 HB3 hga HR3 hr4 hk4 HKx) | ((with_reducible refine gate_dst (N := 34) rfl ?_); refine bs_ev (N := 34) ?hg ?hd (cs := #[.int .u8 3, .int .u8 2, .int .u8 0, .int .u8 7]) (t := 5) (n := 4) ?hr ?_; (case hd => rfl); (case hg => rfl); (case hr => first | (go_simp; done) | (go_simp; rfl)); intro bb hbb w5 hbox HBc; have HGs := IsM.outS HI4.out; have HVb := Aside0.mk (lit_V (g := g) hbox (by omega)); have BKa5 := Aside0.mk (blk_below BKa.out HBc); have HR5 := Aside0.mk (irow_below HR4.out HBc); have HI5 := Aside0.mk (HI4.out.below HBc); have HB5 : Aside0 (Below w.heap.size w w5) := ⟨below_step HB4.out HBc⟩; clear HBc hbox hbb HI4 HB4 BKa HGs HR4) | (go_at_call 14; refine (MsgG.came_go (vs := []) (b := [3, 2, 0, 7]) (al := [7]) (code := 0) HI5.out HB5.out.size 3 (by decide) (by decide) (Nat.zero_le _) HR5.out (some ⟨bb, 0, none⟩) 4 (by decide) HVb.out (by decide) ap1).mono ?_; rintro e w6 ⟨va, rfl, ⟨gd, A6, k6, rfl, hk6, hgd, hr6⟩, HIx, HX, HKx⟩; have BKa6 := Ext.blk HX BKa5.out (apart HI5.out BKa5.out (by decide)); have la0 : w6.cell? ⟨ga, 1, none⟩ = some (.int .i64 1) := (blk_cell BKa6 1).trans rfl; clear BKa6; obtain ⟨gv, rfl, lv⟩ := irow1 hr6; have ld : w6.cell? ⟨gd, 1, none⟩ = some (.slice (some ⟨gv, 0, none⟩) 1 k6) := (blk_cell hgd 1).trans rfl; have HI6 := Aside0.mk HIx; have HB6 : Aside0 (Below w.heap.size w w6) := ⟨belowT HB5.out (extM (extG HX) HG.out HM.out (Nat.le_refl _) HB5.out.size)⟩; clear HIx HX HI5 HB5 hgd hr6 BKa5 HVb HR5 HKx) | (go_at_call 16; refine (count_none HI6.out HB6.out.size (by decide)).mono ?_; rintro e w' ⟨rfl, rfl⟩))
 go_ret
 exact ⟨rfl, HB6.out⟩
end Go.Proofs.Ytlalpooiegganaa.MsgH
end

section
namespace Go.Proofs.Ytlalpooiegganaa.MsgP
open Go.RowKit Go.Proofs.YtlalpooiegganaaW.PrintWords Go.Proofs.YtlalpooiegganaaW.PrintLast Go.Proofs.YtlalpooiegganaaW.PrintMore Go.Proofs.Ytlalpooiegganaa.Core Go.Proofs.Ytlalpooiegganaa.Wk Go.Proofs.Ytlalpooiegganaa.PMasterWaits Go.Proofs.Ytlalpooiegganaa.Msg Go.Proofs.Ytlalpooiegganaa.MsgB Go.Proofs.Ytlalpooiegganaa.MsgD Go.Proofs.Ytlalpooiegganaa.MsgE Go.Proofs.Ytlalpooiegganaa.MsgG
set_option linter.unusedVariables false
set_option linter.unusedSimpArgs false
abbrev RQ := PK.S31
def rc (q : RQ) (A : Option Addr) (c : Nat) : Array Value := #[.int .i64 q.f0, .int .i64 q.f1, .int .i64 q.f2, .slice A q.f3.length c, .int .i64 q.f4, .int .i64 q.f5, .int .i64 q.f6]
def mayQ (q : RQ) : Bool := Chk.chkB q.f0 q.f1 q.f2 q.f3 q.f4 q.f5 q.f6
theorem mayQ_b {q : RQ} (h : mayQ q = true) : ExtM.mayB q.f0 q.f1 q.f2 q.f3 q.f4 q.f5 q.f6 = true := by rw [← ExtM.chk_may]; exact h
structure Elem (w : World) (ad : Addr) (k : Nat) (A3 : Option Addr) (c3 : Nat) (q : RQ) : Prop where
 cells : ∀ W, Below w.heap.size w W → W.cell? (ad.add (k * 7)) = some (.int .i64 q.f0) ∧ W.cell? ⟨(ad.add (k * 7)).block, (ad.add (k * 7)).off + 1, none⟩ = some (.int .i64 q.f1) ∧ W.cell? ⟨(ad.add (k * 7)).block, (ad.add (k * 7)).off + 2, none⟩ = some (.int .i64 q.f2) ∧ W.cell? ⟨(ad.add (k * 7)).block, (ad.add (k * 7)).off + 3, none⟩ = some (.slice A3 q.f3.length c3) ∧ W.cell? ⟨(ad.add (k * 7)).block, (ad.add (k * 7)).off + 4, none⟩ = some (.int .i64 q.f4) ∧ W.cell? ⟨(ad.add (k * 7)).block, (ad.add (k * 7)).off + 5, none⟩ = some (.int .i64 q.f5) ∧ W.cell? ⟨(ad.add (k * 7)).block, (ad.add (k * 7)).off + 6, none⟩ = some (.int .i64 q.f6)
 cap : q.f3.length ≤ c3
 row : ∀ W, Below w.heap.size w W → Kd.C (Kd.int .i64) W A3 q.f3.length q.f3
theorem Elem.ever {w W : World} {ad : Addr} {k c3 : Nat} {A3 : Option Addr} {q : RQ} {M : Nat → Prop} (h : Elem w ad k A3 c3 q) (hB : Below w.heap.size w W) (hM : ∀ k, M k → w.heap.size ≤ k) : Ever M W (fun W => Kd.C (Kd.int .i64) W A3 q.f3.length q.f3) :=
 ⟨fun W1 h1 => h.row W1 ((Ext.of_below (M := M) hB |>.trans h1).below hM)⟩
def OkS (W : World) (x : SV) (j : Nat) (q : RQ) : Prop :=
 x.t = ((j + 1 : Nat) : Int) ∧ x.u = (j : Int) ∧ x.f = q.f0 ∧ x.a = q.f1 ∧ x.c = q.f2 ∧ x.l = q.f3.length ∧ x.o = q.f4 ∧ x.n = q.f5 ∧ x.r = q.f6 ∧ x.l ≤ x.k ∧ IRow W x.A x.l q.f3
def LineOk (W : World) (qs : List RQ) (i : Nat) (L : List SV) : Prop := ∀ j x, L[j]? = some x → OkS W x (i + j) (qs.getD (i + j) PK.z31)
theorem OkS.keeps {W W' : World} {x : SV} {j : Nat} {q : RQ} (h : OkS W x j q) (k : Keeps W W') : OkS W' x j q := by
 obtain ⟨h1, h2, h3, h4, h5, h6, h7, h8, h9, h10, h11⟩ := h
 exact ⟨h1, h2, h3, h4, h5, h6, h7, h8, h9, h10, k.row h11⟩
theorem LineOk.keeps {W W' : World} {qs : List RQ} {i : Nat} {L : List SV} (h : LineOk W qs i L) (k : Keeps W W') : LineOk W' qs i L := fun j x hj => (h j x hj).keeps k
theorem LineOk.below {W W' : World} {qs : List RQ} {i : Nat} {L : List SV} (h : LineOk W qs i L) (k : Below W.heap.size W W') : LineOk W' qs i L := h.keeps (keeps_below k)
theorem LineOk.nil (W : World) (qs : List RQ) (i : Nat) : LineOk W qs i [] := fun j x hj => by simp at hj
theorem LineOk.tail {W : World} {qs : List RQ} {i : Nat} {y : SV} {xs : List SV} (h : LineOk W qs i (y :: xs)) : LineOk W qs (i + 1) xs := fun j x hj => by
 have := h (j + 1) x (by simpa using hj)
 rw [show i + 1 + j = i + (j + 1) by omega]
 exact this
theorem LineOk.head {W : World} {qs : List RQ} {i : Nat} {y : SV} {xs : List SV} (h : LineOk W qs i (y :: xs)) : OkS W y i (qs.getD i PK.z31) := h 0 y rfl
theorem may_q {w : World} {q : RQ} {A : Option Addr} {c : Nat} (hC : Kd.C (Kd.int .i64) w A q.f3.length q.f3) {b : Bool} (hb : mayQ q = b) : Calls Try.prog 10 #[.agg (rc q A c)] w fun e w' => e = .returned (.bool b) ∧ Below w.heap.size w w' := by
 have h := Chk.may_c q.f0 q.f1 q.f2 A c q.f3 q.f4 q.f5 q.f6 w hC
 rw [show Chk.chkB q.f0 q.f1 q.f2 q.f3 q.f4 q.f5 q.f6 = b from hb] at h
 exact h
def ansQ (q : RQ) (v : Int) : List Int := Mth.ansB q.f0 q.f1 q.f2 q.f3 q.f4 q.f5 q.f6 (Mth.ansV q.f0 q.f2 v).1 (Mth.ansV q.f0 q.f2 v).2
theorem answer_q {w : World} {q : RQ} (hm : mayQ q = true) {A3 : Option Addr} {c3 : Nat} (hC : Kd.C (Kd.int .i64) w A3 q.f3.length q.f3) (hc : q.f3.length ≤ c3) (v : Int) :
 Calls Try.prog 15 #[.agg (rc q A3 c3), .int .i64 v] w fun e w' => ∃ A c, e = .returned (.slice A (ansQ q v).length c) ∧ (ansQ q v).length ≤ c ∧ (∀ M : Nat → Prop, (∀ k, M k → k < w.heap.size) → Ever M w' (fun W => Kd.C (Kd.int .u8) W A (ansQ q v).length (ansQ q v))) ∧ Below w.heap.size w w' := by
 have h := PK.basculelaw07_answer.calls 40000 q.f0 q.f1 q.f2 A3 c3 q.f3 q.f4 q.f5 q.f6 v (ansQ q v) w hC hc (Mth.answer_f 40000 (Nat.le_refl _) (mayQ_b hm) v)
 refine h.mono (fun e w' h => ?_)
 obtain ⟨v0, rfl, hR, hB⟩ := h
 obtain ⟨A, c, rfl, hcc, _⟩ := Kd.R_reads hR
 exact ⟨A, c, rfl, hcc, fun M hM => Ever.R hR hM, hB⟩
end Go.Proofs.Ytlalpooiegganaa.MsgP
end

section
namespace Go.Proofs.Ytlalpooiegganaa.MsgS
open Go.RowKit Go.Proofs.YtlalpooiegganaaW.PrintWords Go.Proofs.YtlalpooiegganaaW.PrintLast Go.Proofs.YtlalpooiegganaaW.PrintMore Go.Proofs.Ytlalpooiegganaa.Core Go.Proofs.Ytlalpooiegganaa.Wk Go.Proofs.Ytlalpooiegganaa.PMasterWaits Go.Proofs.Ytlalpooiegganaa.Msg Go.Proofs.Ytlalpooiegganaa.MsgB Go.Proofs.Ytlalpooiegganaa.MsgD Go.Proofs.Ytlalpooiegganaa.MsgE Go.Proofs.Ytlalpooiegganaa.MsgG Go.Proofs.Ytlalpooiegganaa.MsgP
set_option linter.unusedVariables false
set_option linter.unusedSimpArgs false
structure PQ where
 t : Int
 u : Int
 q : RQ
structure PS where
 wait : Int
 again : Int
 pause : Int
 now : Int
 tk : Int
 line : List PQ
 out : Option PQ
 times : Int
 last : Int
 rest : Int → Int
def OkQ (p : PQ) : Prop := mayQ p.q = true ∧ 0 ≤ p.u ∧ p.u ≤ 247
theorem OkQ.len {p : PQ} (h : OkQ p) : p.q.f3.length ≤ 1968 := (Mth.may_is (mayQ_b h.1)).len
structure PS.Ok (s : PS) : Prop where
 line : ∀ p ∈ s.line, OkQ p
 out : ∀ p, s.out = some p → OkQ p
 few : s.line.length ≤ 64
def findGo (rest : Int → Int) (t : Int) : List PQ → Option (List PQ × PQ × List PQ)
 | [] => none
 | p :: ps => if t < rest p.u then (findGo rest t ps).map (fun r => (p :: r.1, r.2.1, r.2.2)) else some ([], p, ps)
theorem findGo_some {rest : Int → Int} {t : Int} : ∀ {l pre : List PQ} {y : PQ} {post : List PQ}, findGo rest t l = some (pre, y, post) → l = pre ++ y :: post ∧ (∀ z ∈ pre, t < rest z.u) ∧ rest y.u ≤ t
 | [], _, _, _, h => by simp [findGo] at h
 | p :: ps, pre, y, post, h => by
  unfold findGo at h
  by_cases hr : t < rest p.u
  ·rw [if_pos hr] at h
   cases hf : findGo rest t ps with
   | none => rw [hf] at h; simp at h
   | some r =>
    obtain ⟨a, b, c⟩ := r
    rw [hf] at h
    simp only [Option.map_some, Option.some.injEq, Prod.mk.injEq] at h
    obtain ⟨rfl, rfl, rfl⟩ := h
    obtain ⟨h1, h2, h3⟩ := findGo_some hf
    refine ⟨by rw [h1]; rfl, fun z hz => ?_, h3⟩
    rcases List.mem_cons.1 hz with rfl | hz
    ·exact hr
    ·exact h2 z hz
  ·rw [if_neg hr] at h
   simp only [Option.some.injEq, Prod.mk.injEq] at h
   obtain ⟨rfl, rfl, rfl⟩ := h
   exact ⟨rfl, fun z hz => by simp at hz, by omega⟩
theorem findGo_none {rest : Int → Int} {t : Int} : ∀ {l : List PQ}, findGo rest t l = none → ∀ z ∈ l, t < rest z.u
 | [], _, z, hz => by simp at hz
 | p :: ps, h, z, hz => by
  unfold findGo at h
  by_cases hr : t < rest p.u
  ·rw [if_pos hr] at h
   have hf : findGo rest t ps = none := by simpa using h
   rcases List.mem_cons.1 hz with rfl | hz
   ·exact hr
   ·exact findGo_none hf z hz
  ·rw [if_neg hr] at h
   cases h
def lateR (s : PS) (x : PQ) (t : Int) : Int → Int := fun k => if k = x.u then wrap64 (t + s.pause) else s.rest k
def goF (s : PS) (t : Int) (r : Int → Int) : PS × Option PQ :=
 match findGo r t s.line with
 | none => ({ s with now := t, out := none, rest := r }, none)
 | some (pre, y, post) => ({ s with now := t, out := some y, line := pre ++ post, times := 1, last := t, rest := r }, some y)
def stepF (s : PS) (t : Int) : PS × Option PQ × Option Int :=
 match s.out with
 | none => ((goF s t s.rest).1, (goF s t s.rest).2, none)
 | some x =>
  if wrap64 (t - s.last) < s.wait then ({ s with now := t }, none, none)
  else if s.times ≤ s.again then ({ s with now := t, times := wrap64 (s.times + 1), last := t }, some x, none)
  else ((goF s t (lateR s x t)).1, (goF s t (lateR s x t)).2, some x.t)
def askF (s : PS) (u : Int) (q : RQ) : PS × Int × Int :=
 if ¬ (0 ≤ u ∧ u ≤ 247) ∨ mayQ q = false then (s, 0, 1)
 else if 64 ≤ s.line.length then (s, 0, 6)
 else ({ s with tk := wrap64 (s.tk + 1), line := s.line ++ [⟨wrap64 (s.tk + 1), u, q⟩] }, wrap64 (s.tk + 1), 0)
def parseQ (q : RQ) (b : List Int) : Option (List Int × Int) := MthD.ansP q.f0 q.f1 q.f2 q.f3 q.f4 q.f5 q.f6 b
def cameF (s : PS) (t u : Int) (b : List Int) : PS × Option (Int × List Int × Int) × Int :=
 match s.out with
 | none => ({ s with now := t }, none, 5)
 | some x => if x.u ≠ u then ({ s with now := t }, none, 5) else
  match parseQ x.q b with
  | none => ({ s with now := t }, none, 5)
  | some (al, code) => ({ s with now := t, out := none }, some (x.t, al, code), 0)
def countF (s : PS) : Int := (s.line.length : Int) + (if s.out.isSome then 1 else 0)
def Corr (W : World) (x : SV) (p : PQ) : Prop :=
 x.t = p.t ∧ x.u = p.u ∧ x.f = p.q.f0 ∧ x.a = p.q.f1 ∧ x.c = p.q.f2 ∧ x.l = p.q.f3.length ∧ x.o = p.q.f4 ∧ x.n = p.q.f5 ∧ x.r = p.q.f6 ∧ x.l ≤ x.k ∧ IRow W x.A x.l p.q.f3
def Corrs (W : World) : List SV → List PQ → Prop
 | [], [] => True
 | x :: xs, p :: ps => Corr W x p ∧ Corrs W xs ps
 | _, _ => False
def CorrO (W : World) : Option SV → Option PQ → Prop
 | none, none => True
 | some x, some p => Corr W x p
 | _, _ => False
theorem Corr.keeps {W W' : World} {x : SV} {p : PQ} (h : Corr W x p) (k : Keeps W W') : Corr W' x p := by
 obtain ⟨h1, h2, h3, h4, h5, h6, h7, h8, h9, h10, h11⟩ := h
 exact ⟨h1, h2, h3, h4, h5, h6, h7, h8, h9, h10, k.row h11⟩
theorem Corrs.keeps {W W' : World} (k : Keeps W W') : ∀ {L : List SV} {ps : List PQ}, Corrs W L ps → Corrs W' L ps
 | [], [], _ => trivial
 | _ :: _, _ :: _, h => ⟨h.1.keeps k, h.2.keeps k⟩
 | [], _ :: _, h => h.elim
 | _ :: _, [], h => h.elim
theorem CorrO.keeps {W W' : World} (k : Keeps W W') {o : Option SV} {p : Option PQ} (h : CorrO W o p) : CorrO W' o p := by
 cases o <;> cases p <;> first | exact h | exact Corr.keeps h k
theorem Corrs.length {W : World} : ∀ {L : List SV} {ps : List PQ}, Corrs W L ps → L.length = ps.length
 | [], [], _ => rfl
 | _ :: _, _ :: _, h => by simp [h.2.length]
 | [], _ :: _, h => h.elim
 | _ :: _, [], h => h.elim
theorem Corrs.app {W : World} : ∀ {L L2 : List SV} {ps p2 : List PQ}, Corrs W L ps → Corrs W L2 p2 → Corrs W (L ++ L2) (ps ++ p2)
 | [], _, [], _, _, h2 => h2
 | _ :: _, _, _ :: _, _, h, h2 => ⟨h.1, h.2.app h2⟩
 | [], _, _ :: _, _, h, _ => h.elim
 | _ :: _, _, [], _, h, _ => h.elim
theorem Corrs.split {W : World} {y : PQ} {post : List PQ} : ∀ {L : List SV} {pre : List PQ}, Corrs W L (pre ++ y :: post) → ∃ Lp x Lq, L = Lp ++ x :: Lq ∧ Corrs W Lp pre ∧ Corr W x y ∧ Corrs W Lq post
 | x :: L, [], h => ⟨[], x, L, rfl, trivial, h.1, h.2⟩
 | x :: L, p :: pre, h => by
  obtain ⟨Lp, z, Lq, e, h1, h2, h3⟩ := Corrs.split (pre := pre) h.2
  exact ⟨x :: Lp, z, Lq, by rw [e]; rfl, ⟨h.1, h1⟩, h2, h3⟩
 | [], [], h => h.elim
 | [], _ :: _, h => h.elim
theorem Corrs.mem {W : World} {z : SV} : ∀ {L : List SV} {ps : List PQ}, Corrs W L ps → z ∈ L → ∃ p, p ∈ ps ∧ Corr W z p
 | x :: L, p :: ps, h, hz => by
  rcases List.mem_cons.1 hz with rfl | hz
  ·exact ⟨p, .head _, h.1⟩
  ·obtain ⟨p', h1, h2⟩ := Corrs.mem h.2 hz
   exact ⟨p', .tail _ h1, h2⟩
 | [], [], _, hz => by simp at hz
 | [], _ :: _, h, _ => h.elim
 | _ :: _, [], h, _ => h.elim
structure IsP (B : Nat) (W : World) (g m : Nat) (s : PS) : Prop where
 out : ∃ L o, IsM B W g m ⟨s.wait, s.again, s.pause, s.now, s.tk, L, o, s.times, s.last, s.rest⟩ ∧ Corrs W L s.line ∧ CorrO W o s.out
theorem IsP.below {B : Nat} {W W' : World} {g m : Nat} {s : PS} (h : IsP B W g m s) (k : Below W.heap.size W W') : IsP B W' g m s := by
 obtain ⟨L, o, h1, h2, h3⟩ := h.out
 exact ⟨⟨L, o, h1.below k, h2.keeps (keeps_below k), h3.keeps (keeps_below k)⟩⟩
theorem IsP.apart {B : Nat} {W : World} {g m ga : Nat} {s : PS} {cs : Array Value} {T : TypeId} (h : IsP B W g m s) (hb : W.heap[ga]? = some (.cells cs T (0, 0))) (hT : T ≠ 73) : ¬ Gm g m ga := by
 obtain ⟨L, o, h1, _⟩ := h.out
 exact MsgH.apart h1 hb hT
theorem IsP.lt {B : Nat} {W : World} {g m : Nat} {s : PS} (h : IsP B W g m s) : g < W.heap.size := by
 obtain ⟨L, o, h1, _⟩ := h.out
 exact MsgD.IsM.outS h1
def SentP (W : World) (v : Value) : Option PQ → Prop
 | none => v = .slice none 0 0
 | some p => ∃ ga c A k, v = .slice (some ⟨ga, 0, none⟩) 1 c ∧ W.heap[ga]? = some (.cells #[.int .i64 p.t, .int .i64 p.u, .int .i64 p.q.f0, .int .i64 p.q.f1, .int .i64 p.q.f2, .slice A p.q.f3.length k, .int .i64 p.q.f4, .int .i64 p.q.f5, .int .i64 p.q.f6] 39 (0, 0)) ∧ p.q.f3.length ≤ k ∧ IRow W A p.q.f3.length p.q.f3
def init (wait again pause : Int) : PS := ⟨wait, again, pause, 0, 0, [], none, 0, 0, fun _ => 0⟩
theorem new_p (w : World) (wait again rest : Int) (h1 : 1 ≤ wait) (h2 : 0 ≤ again) (h3 : again ≤ 16) (h4 : 0 ≤ rest) : Calls Try.prog 8 #[.int .i64 wait, .int .i64 again, .int .i64 rest] w fun e w' => ∃ g m, e = .returned (.tuple #[.pointer (some ⟨g, 0, none⟩), .int .i64 0]) ∧ w.heap.size ≤ g ∧ w.heap.size ≤ m ∧ m < w'.heap.size ∧ (∀ B, IsP B w' g m (init wait again rest)) ∧ Below w.heap.size w w' :=
 (new_c w wait again rest h1 h2 h3 h4).mono (fun e w' ⟨g, m, a, b, c, d, d2, f, k⟩ => ⟨g, m, a, b, c, d2, fun B => ⟨⟨[], none, f B, trivial, trivial⟩⟩, k⟩)
section
variable {B : Nat} {w : World} {g m : Nat} {s : PS}
theorem count_p (h : IsP B w g m s) (hB : B ≤ w.heap.size) (ok : s.Ok) : Calls Try.prog 16 #[.pointer (some ⟨g, 0, none⟩)] w fun e w' => e = .returned (.int .i64 (countF s)) ∧ w = w' := by
 obtain ⟨L, o, h1, h2, h3⟩ := h.out
 have hl := h2.length
 have hf := ok.few
 unfold countF
 cases o with
 | none =>
  cases ho : s.out with
  | some p => rw [ho] at h3; exact h3.elim
  | none =>
   have h := count_none h1 hB (by omega)
   rw [hl] at h
   simpa using h
 | some x =>
  cases ho : s.out with
  | none => rw [ho] at h3; exact h3.elim
  | some p =>
   have h := count_some h1 hB (by omega)
   rw [hl] at h
   simpa using h
theorem ask_p (h : IsP B w g m s) (hB : B ≤ w.heap.size) (u : Int) (q : RQ) (A3 : Option Addr) (c3 : Nat) (hV : Ever (Mm B g m) w (fun W => Kd.C (Kd.int .i64) W A3 q.f3.length q.f3)) :
 Calls Try.prog 11 #[.pointer (some ⟨g, 0, none⟩), .int .i64 u, .agg (rc q A3 c3)] w fun e w' => e = .returned (.tuple #[.int .i64 (askF s u q).2.1, .int .i64 (askF s u q).2.2]) ∧ IsP B w' g m (askF s u q).1 ∧ Ext (Mm B g m) w w' ∧ Keeps w w' := by
 obtain ⟨L, o, h1, h2, h3⟩ := h.out
 have same : ∀ {w' : World} {st : MS}, Keeps w w' → IsM B w' g m ⟨s.wait, s.again, s.pause, s.now, s.tk, L, o, s.times, s.last, s.rest⟩ → IsP B w' g m s := fun k hI => ⟨⟨L, o, hI, h2.keeps k, h3.keeps k⟩⟩
 unfold askF
 by_cases hu : 0 ≤ u ∧ u ≤ 247
 ·cases hm : mayQ q with
  | false =>
   rw [if_pos (.inr rfl)]
   exact (ask_chk (q := ⟨0, 0, q.f0, q.f1, q.f2, A3, q.f3.length, c3, q.f4, q.f5, q.f6⟩) (vs := q.f3) h1 hB u hu.1 hu.2 hV rfl hm).mono (fun e w' ⟨a, b, c, d⟩ => ⟨a, same (st := ⟨0, 0, 0, 0, 0, [], none, 0, 0, fun _ => 0⟩) d b, c, d⟩)
  | true =>
   rw [if_neg (by simp [hu])]
   by_cases hl : 64 ≤ s.line.length
   ·rw [if_pos hl]
    exact (ask_full (q := ⟨0, 0, q.f0, q.f1, q.f2, A3, q.f3.length, c3, q.f4, q.f5, q.f6⟩) (vs := q.f3) h1 hB u hu.1 hu.2 hV rfl hm (by rw [h2.length]; exact hl)).mono (fun e w' ⟨a, b, c, d⟩ => ⟨a, same (st := ⟨0, 0, 0, 0, 0, [], none, 0, 0, fun _ => 0⟩) d b, c, d⟩)
   ·rw [if_neg hl]
    refine (ask_c (q := ⟨0, 0, q.f0, q.f1, q.f2, A3, q.f3.length, c3, q.f4, q.f5, q.f6⟩) (vs := q.f3) h1 hB u hu.1 hu.2 (by rw [h2.length]; omega) hV rfl (by have := (Mth.may_is (mayQ_b hm)).len; omega) hm).mono (fun e w' h => ?_)
    obtain ⟨A', k', a, b, c, d, f, k⟩ := h
    exact ⟨a, ⟨⟨_, o, d, (h2.keeps k).app ⟨⟨rfl, rfl, rfl, rfl, rfl, rfl, rfl, rfl, rfl, b, c⟩, trivial⟩, h3.keeps k⟩⟩, f, k⟩
 ·rw [if_pos (.inl hu)]
  exact (ask_unit (q := ⟨0, 0, q.f0, q.f1, q.f2, A3, q.f3.length, c3, q.f4, q.f5, q.f6⟩) (vs := q.f3) h1 hB u (by omega)).mono (fun e w' ⟨a, b, c, d⟩ => ⟨a, same (st := ⟨0, 0, 0, 0, 0, [], none, 0, 0, fun _ => 0⟩) d b, c, d⟩)
theorem sent_p {w' : World} {x : SV} {p : PQ} (hc : Corr w x p) {A' : Option Addr} {k' : Nat} {va : Value} (hs : SentR w' va (some ⟨x.t, x.u, x.f, x.a, x.c, A', x.l, k', x.o, x.n, x.r⟩)) (hk : x.l ≤ k') (hr : IRow w' A' x.l p.q.f3) : SentP w' va (some p) := by
 obtain ⟨y1, y2, y3, y4, y5, y6, y7, y8, y9, y10, y11⟩ := hc
 obtain ⟨ga, c, e, hb⟩ := hs
 refine ⟨ga, c, A', k', e, ?_, by rw [← y6]; exact hk, by rw [← y6]; exact hr⟩
 rw [hb]
 simp only [sc, y1, y2, y3, y4, y5, y6, y7, y8, y9]
theorem step_p (h : IsP B w g m s) (hB : B ≤ w.heap.size) (ok : s.Ok) (t : Int) (h0 : 0 ≤ t) (h1 : s.now ≤ t) :
 Calls Try.prog 12 #[.pointer (some ⟨g, 0, none⟩), .int .i64 t] w fun e w' => ∃ va vd, e = .returned (.tuple #[va, vd, .int .i64 0]) ∧ SentP w' va (stepF s t).2.1 ∧ DoneR w' vd (stepF s t).2.2 ∧ IsP B w' g m (stepF s t).1 ∧ Ext (Gm g m) w w' ∧ Keeps w w' := by
 obtain ⟨L, o, hI, h2, h3⟩ := h.out
 have hl := h2.length
 have hf := ok.few
 have e1 : wrap64 (0 + 1) = 1 := by unfold wrap64; omega
 have hpre : ∀ {r : Int → Int} {Lp : List SV} {pre : List PQ}, Corrs w Lp pre → (∀ z ∈ pre, t < r z.u) → ∀ z ∈ Lp, t < r z.u := fun hc hz z hm => by
  obtain ⟨p, hp, hcz⟩ := hc.mem hm
  rw [hcz.2.1]
  exact hz p hp
 unfold stepF
 cases o with
 | none =>
  cases ho : s.out with
  | some p => rw [ho] at h3; exact h3.elim
  | none =>
   unfold goF
   cases hg : findGo s.rest t s.line with
   | none =>
    refine (step_stay hI hB t h0 h1 (hpre h2 (findGo_none hg)) (by omega)).mono (fun e w' hh => ?_)
    obtain ⟨va, vd, a, b, c, d, f, k⟩ := hh
    exact ⟨va, vd, a, b, c, ⟨⟨L, none, d, h2.keeps k, trivial⟩⟩, f, k⟩
   | some r =>
    obtain ⟨pre, y, post⟩ := r
    obtain ⟨g1, g2, g3⟩ := findGo_some hg
    rw [g1] at h2
    obtain ⟨Lp, x, Lq, rfl, c1, c2, c3⟩ := h2.split
    have oky : OkQ y := ok.line y (by rw [g1]; simp)
    have hx := c2
    refine (step_go hI hB t h0 h1 (hpre c1 g2) (by rw [c2.2.1]; exact g3) (by omega) c2.2.2.2.2.2.2.2.2.2.2 (by rw [c2.2.2.2.2.2.1]; have := oky.len; omega)).mono (fun e w' hh => ?_)
    obtain ⟨va, vd, a, A', k', b, c, d, f, i, j, k⟩ := hh
    rw [e1] at i
    exact ⟨va, vd, a, sent_p c2 b d f, c, ⟨⟨Lp ++ Lq, some x, i, (c1.keeps k).app (c3.keeps k), c2.keeps k⟩⟩, j, k⟩
 | some x =>
  cases ho : s.out with
  | none => rw [ho] at h3; exact h3.elim
  | some p =>
   rw [ho] at h3
   have hx : Corr w x p := h3
   have okp : OkQ p := ok.out p ho
   show Calls Try.prog 12 _ w _
   dsimp only
   by_cases hq : wrap64 (t - s.last) < s.wait
   ·rw [if_pos hq]
    refine (step_wait hI hB t h0 h1 hq).mono (fun e w' hh => ?_)
    obtain ⟨va, vd, a, b, c, d, f, k⟩ := hh
    exact ⟨va, vd, a, b, c, ⟨⟨L, some x, d, h2.keeps k, hx.keeps k⟩⟩, f, k⟩
   ·rw [if_neg hq]
    by_cases hr : s.times ≤ s.again
    ·rw [if_pos hr]
     refine (step_again hI hB t h0 h1 (by omega) hr hx.2.2.2.2.2.2.2.2.2.2 (by rw [hx.2.2.2.2.2.1]; have := okp.len; omega)).mono (fun e w' hh => ?_)
     obtain ⟨va, vd, a, A', k', b, c, d, f, i, j, k⟩ := hh
     exact ⟨va, vd, a, sent_p hx b d f, c, ⟨⟨L, some x, i, h2.keeps k, hx.keeps k⟩⟩, j, k⟩
    ·rw [if_neg hr]
     have hR : (fun k => if k = x.u then wrap64 (t + s.pause) else s.rest k) = lateR s p t := by unfold lateR; rw [hx.2.1]
     have hD : ∀ {W : World} {v : Value}, DoneR W v (some x.t) → DoneR W v (some p.t) := fun h => by rw [← hx.1]; exact h
     unfold goF
     cases hg : findGo (lateR s p t) t s.line with
     | none =>
      have hz := hpre h2 (findGo_none hg)
      rw [← hR] at hz
      refine (step_late_stay hI hB t h0 h1 (by omega) (by omega) hz (by omega)).mono (fun e w' hh => ?_)
      obtain ⟨va, vd, a, b, c, d, f, k⟩ := hh
      rw [hR] at d
      exact ⟨va, vd, a, b, hD c, ⟨⟨L, none, d, h2.keeps k, trivial⟩⟩, f, k⟩
     | some r =>
      obtain ⟨pre, y, post⟩ := r
      obtain ⟨g1, g2, g3⟩ := findGo_some hg
      rw [g1] at h2
      obtain ⟨Lp, z, Lq, rfl, c1, c2, c3⟩ := h2.split
      have oky : OkQ y := ok.line y (by rw [g1]; simp)
      have hz := hpre c1 g2
      rw [← hR] at hz g3
      refine (step_late_go hI hB t h0 h1 (by omega) (by omega) hz (by rw [c2.2.1]; exact g3) (by omega) c2.2.2.2.2.2.2.2.2.2.2 (by rw [c2.2.2.2.2.2.1]; have := oky.len; omega)).mono (fun e w' hh => ?_)
      obtain ⟨va, vd, a, A', k', b, c, d, f, i, j, k⟩ := hh
      rw [e1, hR] at i
      exact ⟨va, vd, a, sent_p c2 b d f, hD c, ⟨⟨Lp ++ Lq, some z, i, (c1.keeps k).app (c3.keeps k), c2.keeps k⟩⟩, j, k⟩
theorem step_no (h : IsP B w g m s) (hB : B ≤ w.heap.size) (t : Int) (h0 : t < 0 ∨ t < s.now) :
 Calls Try.prog 12 #[.pointer (some ⟨g, 0, none⟩), .int .i64 t] w fun e w' => e = .returned (.tuple #[.slice none 0 0, .slice none 0 0, .int .i64 1]) ∧ w = w' := by
 obtain ⟨L, o, hI, _⟩ := h.out
 exact step_bad hI hB t h0
def CameP (W : World) (v : Value) : Option (Int × List Int × Int) → Prop
 | none => v = .slice none 0 0
 | some (t, al, code) => CameR W t al code v
theorem came_p (h : IsP B w g m s) (hB : B ≤ w.heap.size) (ok : s.Ok) (t : Int) (h0 : 0 ≤ t) (h1 : s.now ≤ t) (u : Int) (A : Option Addr) (c : Nat) {b : List Int} (hb : MathP.Bytes b) (hbl : b.length ≤ 4000) (hc : b.length ≤ c) (hV : Ever (fun k => k = g) w (fun W => Kd.C (Kd.int .u8) W A b.length b)) :
 Calls Try.prog 14 #[.pointer (some ⟨g, 0, none⟩), .int .i64 t, .int .i64 u, .slice A b.length c] w fun e w' => ∃ va, e = .returned (.tuple #[va, .int .i64 (cameF s t u b).2.2]) ∧ CameP w' va (cameF s t u b).2.1 ∧ IsP B w' g m (cameF s t u b).1 ∧ Ext (Gm g m) w w' ∧ Keeps w w' := by
 obtain ⟨L, o, hI, h2, h3⟩ := h.out
 unfold cameF
 cases o with
 | none =>
  cases ho : s.out with
  | some p => rw [ho] at h3; exact h3.elim
  | none =>
   refine (came_none hI hB t h0 h1 u A b.length c).mono (fun e w' ⟨a, d, f, k⟩ => ⟨_, a, rfl, ⟨⟨L, none, d, h2.keeps k, trivial⟩⟩, f, k⟩)
 | some x =>
  cases ho : s.out with
  | none => rw [ho] at h3; exact h3.elim
  | some p =>
   rw [ho] at h3
   have hx : Corr w x p := h3
   have okp : OkQ p := ok.out p ho
   have hoo : ∀ {W : World}, Keeps w W → CorrO W (some x) (some p) := fun k => hx.keeps k
   dsimp only
   by_cases hu : p.u ≠ u
   ·rw [if_pos hu]
    exact (came_unlike hI hB t h0 h1 u (by rw [hx.2.1]; exact hu) A b.length c).mono (fun e w' ⟨a, d, f, k⟩ => ⟨_, a, rfl, ⟨⟨L, some x, d, h2.keeps k, hoo k⟩⟩, f, k⟩)
   ·rw [if_neg hu]
    have hu' : x.u = u := by rw [hx.2.1]; exact Decidable.of_not_not hu
    obtain ⟨y1, y2, y3, y4, y5, y6, y7, y8, y9, y10, y11⟩ := hx
    have hp := MthD.pap_yes 200000 (Nat.le_refl _) (mayQ_b okp.1) b hb hbl
    rw [← y3, ← y4, ← y5, ← y7, ← y8, ← y9] at hp
    unfold parseQ
    rw [← y3, ← y4, ← y5, ← y7, ← y8, ← y9]
    cases hpp : MthD.ansP x.f x.a x.c p.q.f3 x.o x.n x.r b with
    | none =>
     rw [hpp] at hp
     have h := came_fail hI hB t h0 h1 (vs := p.q.f3) y10 y11 A c hc hV (by decide) ⟨200000, hp⟩
     rw [hu'] at h
     exact h.mono (fun e w' ⟨a, d, f, k⟩ => ⟨_, a, rfl, ⟨⟨L, some x, d, h2.keeps k, hoo k⟩⟩, f, k⟩)
    | some r =>
     obtain ⟨al, code⟩ := r
     rw [hpp] at hp
     have hal : al.length ≤ 100000 := by
      have I := Mth.may_is (mayQ_b okp.1)
      rw [← y3, ← y4, ← y5, ← y7, ← y8, ← y9] at I
      unfold MthD.ansP at hpp
      split at hpp
      ·cases hpp
      split at hpp
      ·cases hpp
      split at hpp
      ·next hq =>
       have J := Mth.ans_is hq.1
       have e := Option.some.inj hpp
       rw [e] at J
       by_cases hc0 : code = 0
       ·by_cases hf5 : x.f = 1 ∨ x.f = 2 ∨ x.f = 3 ∨ x.f = 4 ∨ x.f = 23
        ·have h1 : (al.length : Int) = x.c := J.len hc0 hf5
         have h2 := I.cnt hf5
         omega
        ·have h1 : al = [] := J.nov hc0 (by omega)
         rw [h1]; simp
       ·have h1 : al = [] := J.none hc0
        rw [h1]; simp
      ·cases hpp
     have h := came_go hI hB t h0 h1 (vs := p.q.f3) y10 y11 A c hc hV hal ⟨200000, hp⟩
     rw [hu', y1] at h
     exact h.mono (fun e w' ⟨va, a, d, f, i, k⟩ => ⟨va, a, d, ⟨⟨L, none, f, h2.keeps k, trivial⟩⟩, i, k⟩)
theorem came_no (h : IsP B w g m s) (hB : B ≤ w.heap.size) (t : Int) (h0 : t < 0 ∨ t < s.now) (u : Int) (A : Option Addr) (b c : Nat) :
 Calls Try.prog 14 #[.pointer (some ⟨g, 0, none⟩), .int .i64 t, .int .i64 u, .slice A b c] w fun e w' => e = .returned (.tuple #[.slice none 0 0, .int .i64 1]) ∧ w = w' := by
 obtain ⟨L, o, hI, _⟩ := h.out
 exact came_bad hI hB t h0 u A b c
end
end Go.Proofs.Ytlalpooiegganaa.MsgS
end

section
namespace Go.Proofs.Ytlalpooiegganaa.MthN
open Go.RowKit Go.Proofs.Ytlalpooiegganaa.MsgP Go.Proofs.Ytlalpooiegganaa.MsgS
set_option linter.unusedVariables false
set_option linter.unusedSimpArgs false
theorem getD_set {α : Type} (l : List α) (i j : Nat) (v d : α) : (l.set i v).getD j d = if i = j ∧ j < l.length then v else l.getD j d := by
 rw [List.getD_eq_getElem?_getD, List.getD_eq_getElem?_getD, List.getElem?_set]
 by_cases e : i = j
 ·subst e
  by_cases h : i < l.length
  ·simp [h]
  ·simp [h, List.getElem?_eq_none (Nat.le_of_not_lt h)]
 ·simp [e]
def undone (dn : List Bool) : Nat → Int
 | 0 => 0
 | k + 1 => undone dn k + (if dn.getD (k + 1) false then 0 else 1)
theorem cnt_set {dn : List Bool} {j : Nat} (hj : dn.getD j false = false) (hl : j < dn.length) (h1 : 1 ≤ j) : ∀ k, undone (dn.set j true) k = undone dn k - (if j ≤ k then 1 else 0)
 | 0 => by rw [if_neg (by omega)]; rfl
 | k + 1 => by
  have e0 := cnt_set hj hl h1 k
  show undone (dn.set j true) k + (if (dn.set j true).getD (k + 1) false then 0 else 1) = (undone dn k + (if dn.getD (k + 1) false then 0 else 1)) - (if j ≤ k + 1 then 1 else 0)
  rw [e0, getD_set]
  by_cases e : j = k + 1
  ·subst e
   have h5 : (if (k + 1 = k + 1 ∧ k + 1 < dn.length) then true else dn.getD (k + 1) false) = true := if_pos ⟨rfl, hl⟩
   have a1 : ¬ (k + 1 ≤ k) := by omega
   rw [h5, hj, if_neg a1, if_pos rfl, if_neg (by decide), if_pos (Nat.le_refl _)]
   omega
  ·have h5 : (if (j = k + 1 ∧ k + 1 < dn.length) then true else dn.getD (k + 1) false) = dn.getD (k + 1) false := if_neg (fun h => e h.1)
   rw [h5]
   by_cases h : j ≤ k
   ·rw [if_pos h, if_pos (show j ≤ k + 1 by omega)]; omega
   ·rw [if_neg h, if_neg (show ¬ j ≤ k + 1 by omega)]; omega
theorem cnt_le (dn : List Bool) : ∀ k, 0 ≤ undone dn k ∧ undone dn k ≤ k
 | 0 => by simp [undone]
 | k + 1 => by
  have := cnt_le dn k
  unfold undone
  split <;> omega
structure Inv (ag : Int) (n : Nat) (s : PS) (sn : List Int) (dn : List Bool) (lp : PQ) (ov : Int) : Prop where
 ok : s.Ok
 tk : s.tk = (n : Int)
 again : s.again = ag
 ls : sn.length = 200
 ld : dn.length = 200
 line : ∀ p ∈ s.line, ∃ j : Nat, p.t = (j : Int) ∧ 1 ≤ j ∧ j ≤ n ∧ sn.getD j 0 = 0 ∧ dn.getD j false = false
 nodup : (s.line.map (·.t)).Nodup
 none_ : s.out = none → ov = 0
 some_ : ∀ p, s.out = some p → ∃ j : Nat, p.t = (j : Int) ∧ 1 ≤ j ∧ j ≤ n ∧ dn.getD j false = false ∧ sn.getD j 0 = s.times ∧ 1 ≤ s.times ∧ s.times ≤ ag + 1 ∧ ov = p.t ∧ lp = p ∧ ∀ z ∈ s.line, z.t ≠ p.t
 frs : ∀ j, n < j → sn.getD j 0 = 0
 frd : ∀ j, n < j → dn.getD j false = false
 cnt : undone dn n = countF s
def dnOf (d : Option (Int × Bool)) (dn : List Bool) : List Bool := match d with | none => dn | some r => dn.set r.1.toNat true
def ovOf (d : Option (Int × Bool)) (ov : Int) : Int := match d with | none => ov | some _ => 0
def snOf (a : Option PQ) (sn : List Int) : List Int := match a with | none => sn | some p => sn.set p.t.toNat (sn.getD p.t.toNat 0 + 1)
def lpOf (a : Option PQ) (lp : PQ) : PQ := match a with | none => lp | some p => p
def ovOf2 (a : Option PQ) (ov : Int) : Int := match a with | none => ov | some p => p.t
structure Mid (ag : Int) (n : Nat) (s : PS) (sn : List Int) (dn : List Bool) (lp : PQ) (ov : Int) (d : Option (Int × Bool)) (a : Option PQ) : Prop where
 dOk : ∀ t late, d = some (t, late) → ∃ j : Nat, t = (j : Int) ∧ 1 ≤ j ∧ j ≤ n ∧ j < 200 ∧ dn.getD j false = false ∧ sn.getD j 0 ≠ 0 ∧ t = ov ∧ (late = true → sn.getD j 0 = ag + 1)
 aOk : ∀ p, a = some p → ∃ j : Nat, p.t = (j : Int) ∧ 1 ≤ j ∧ j ≤ n ∧ j < 200 ∧ (dnOf d dn).getD j false = false ∧ 0 ≤ sn.getD j 0 ∧ sn.getD j 0 ≤ ag ∧ (ovOf d ov = 0 ∨ p.t = ovOf d ov) ∧ OkQ p
 inv : Inv ag n s (snOf a sn) (dnOf d dn) (lpOf a lp) (ovOf2 a (ovOf d ov))
section
variable {ag : Int} {n : Nat} {s s1 : PS} {sn : List Int} {dn : List Bool} {lp : PQ} {ov : Int} {p y : PQ} {pre post : List PQ}
theorem Inv.same (h : Inv ag n s sn dn lp ov) (h1 : s1.line = s.line) (h2 : s1.out = s.out) (h3 : s1.times = s.times) (h4 : s1.tk = s.tk) (h5 : s1.again = s.again) : Inv ag n s1 sn dn lp ov where
 ok := ⟨by rw [h1]; exact h.ok.line, by rw [h2]; exact h.ok.out, by rw [h1]; exact h.ok.few⟩
 tk := by rw [h4]; exact h.tk
 again := by rw [h5]; exact h.again
 ls := h.ls
 ld := h.ld
 line := by rw [h1]; exact h.line
 nodup := by rw [h1]; exact h.nodup
 none_ := by rw [h2]; exact h.none_
 some_ := by rw [h2, h3, h1]; exact h.some_
 frs := h.frs
 frd := h.frd
 cnt := by unfold countF; rw [h1, h2]; exact h.cnt
theorem Mid.same (h : Inv ag n s sn dn lp ov) : Mid ag n s sn dn lp ov none none := ⟨fun _ _ e => (by cases e), fun _ e => (by cases e), h⟩
theorem Inv.done (h : Inv ag n s sn dn lp ov) (hn : n < 200) (ho : s.out = some p) (h1 : s1.line = s.line) (h2 : s1.out = none) (h4 : s1.tk = s.tk) (h5 : s1.again = s.again) : Inv ag n s1 sn (dn.set p.t.toNat true) lp 0 := by
 obtain ⟨j, e, j1, jn, hd, hs, t1, t2, eo, el, hz⟩ := h.some_ p ho
 have hj : p.t.toNat = j := by omega
 rw [hj]
 refine ⟨⟨by rw [h1]; exact h.ok.line, by rw [h2]; exact fun _ e => (by cases e), by rw [h1]; exact h.ok.few⟩, by rw [h4]; exact h.tk, by rw [h5]; exact h.again, h.ls, by rw [List.length_set]; exact h.ld, ?_, by rw [h1]; exact h.nodup, fun _ => rfl, by rw [h2]; exact fun _ e => (by cases e), h.frs, ?_, ?_⟩
 ·intro z hzm
  rw [h1] at hzm
  obtain ⟨i, e1, i1, in_, is_, id_⟩ := h.line z hzm
  refine ⟨i, e1, i1, in_, is_, ?_⟩
  rw [getD_set, if_neg (fun hh => hz z hzm (by rw [e1, e, ← hh.1]))]
  exact id_
 ·intro i hi
  rw [getD_set, if_neg (by omega)]
  exact h.frd i hi
 ·rw [cnt_set hd (by rw [h.ld]; omega) j1, if_pos jn, h.cnt]
  unfold countF
  rw [h1, h2, ho]
  simp
theorem Inv.go (h : Inv ag n s sn dn lp ov) (hn : n < 200) (hag : 0 ≤ ag) (ho : s.out = none) (hl : s.line = pre ++ y :: post) (h1 : s1.line = pre ++ post) (h2 : s1.out = some y) (h3 : s1.times = 1) (h4 : s1.tk = s.tk) (h5 : s1.again = s.again) :
 Inv ag n s1 (sn.set y.t.toNat (sn.getD y.t.toNat 0 + 1)) dn y y.t := by
 have hy : y ∈ s.line := by rw [hl]; simp
 obtain ⟨j, e, j1, jn, hs, hd⟩ := h.line y hy
 have hj : y.t.toNat = j := by omega
 rw [hj, hs]
 have hsub : ∀ z ∈ pre ++ post, z ∈ s.line := fun z hz => by
  rw [hl]
  rcases List.mem_append.1 hz with a | a
  ·exact List.mem_append.2 (.inl a)
  ·exact List.mem_append.2 (.inr (.tail _ a))
 have hnd := h.nodup
 rw [hl, List.map_append, List.map_cons] at hnd
 have hnd2 : ((pre ++ post).map (·.t)).Nodup ∧ ∀ z ∈ pre ++ post, z.t ≠ y.t := by
  rw [List.nodup_append] at hnd
  obtain ⟨a1, a2, a3⟩ := hnd
  rw [List.nodup_cons] at a2
  refine ⟨?_, fun z hz => ?_⟩
  ·rw [List.map_append, List.nodup_append]
   exact ⟨a1, a2.2, fun x hx w hw => a3 x hx w (.tail _ hw)⟩
  ·rcases List.mem_append.1 hz with q | q
   ·exact a3 z.t (List.mem_map.2 ⟨z, q, rfl⟩) y.t (.head _)
   ·intro e; exact a2.1 (by rw [← e]; exact List.mem_map.2 ⟨z, q, rfl⟩)
 refine ⟨⟨fun z hz => h.ok.line z (hsub z (by rw [← h1]; exact hz)), fun q hq => ?_, ?_⟩, by rw [h4]; exact h.tk, by rw [h5]; exact h.again, by rw [List.length_set]; exact h.ls, h.ld, ?_, by rw [h1]; exact hnd2.1, fun e => (by rw [h2] at e; cases e), ?_, ?_, h.frd, ?_⟩
 ·rw [h2] at hq; cases hq; exact h.ok.line _ hy
 ·have := h.ok.few
  rw [hl] at this
  rw [h1]
  simp only [List.length_append, List.length_cons] at *
  omega
 ·intro z hz
  rw [h1] at hz
  obtain ⟨i, e1, i1, in_, is_, id_⟩ := h.line z (hsub z hz)
  refine ⟨i, e1, i1, in_, ?_, id_⟩
  rw [getD_set, if_neg (fun hh => hnd2.2 z hz (by rw [e1, e, ← hh.1]))]
  exact is_
 ·intro q hq
  rw [h2] at hq
  cases hq
  refine ⟨j, e, j1, jn, hd, ?_, by omega, by omega, rfl, rfl, by rw [h1]; exact hnd2.2⟩
  rw [getD_set, if_pos ⟨rfl, by rw [h.ls]; omega⟩, h3]
  omega
 ·intro i hi
  rw [getD_set, if_neg (by omega)]
  exact h.frs i hi
 ·rw [h.cnt]
  unfold countF
  rw [hl, h1, h2, ho]
  simp
  omega
theorem Inv.againS (h : Inv ag n s sn dn lp ov) (hn : n < 200) (ho : s.out = some p) (ht : s.times ≤ ag) (h1 : s1.line = s.line) (h2 : s1.out = some p) (h3 : s1.times = s.times + 1) (h4 : s1.tk = s.tk) (h5 : s1.again = s.again) :
 Inv ag n s1 (sn.set p.t.toNat (sn.getD p.t.toNat 0 + 1)) dn p p.t := by
 obtain ⟨j, e, j1, jn, hd, hs, t1, t2, eo, el, hz⟩ := h.some_ p ho
 have hj : p.t.toNat = j := by omega
 rw [hj, hs]
 refine ⟨⟨by rw [h1]; exact h.ok.line, fun q hq => h.ok.out q (by rw [ho, ← h2]; exact hq), by rw [h1]; exact h.ok.few⟩, by rw [h4]; exact h.tk, by rw [h5]; exact h.again, by rw [List.length_set]; exact h.ls, h.ld, ?_, by rw [h1]; exact h.nodup, fun e => (by rw [h2] at e; cases e), ?_, ?_, h.frd, ?_⟩
 ·intro z hzm
  rw [h1] at hzm
  obtain ⟨i, e1, i1, in_, is_, id_⟩ := h.line z hzm
  refine ⟨i, e1, i1, in_, ?_, id_⟩
  rw [getD_set, if_neg (fun hh => hz z hzm (by rw [e1, e, ← hh.1]))]
  exact is_
 ·intro q hq
  rw [h2] at hq
  cases hq
  refine ⟨j, e, j1, jn, hd, ?_, by omega, by omega, rfl, rfl, by rw [h1]; exact hz⟩
  rw [getD_set, if_pos ⟨rfl, by rw [h.ls]; omega⟩, h3]
 ·intro i hi
  rw [getD_set, if_neg (by omega)]
  exact h.frs i hi
 ·rw [h.cnt]
  unfold countF
  rw [h1, h2, ho]
theorem Inv.ask (h : Inv ag n s sn dn lp ov) {u : Int} {q : RQ} (hq : OkQ ⟨((n + 1 : Nat) : Int), u, q⟩) (hl : s.line.length < 64) (h1 : s1.line = s.line ++ [⟨((n + 1 : Nat) : Int), u, q⟩]) (h2 : s1.out = s.out) (h3 : s1.times = s.times) (h4 : s1.tk = ((n + 1 : Nat) : Int)) (h5 : s1.again = s.again) : Inv ag (n + 1) s1 sn dn lp ov := by
 refine ⟨⟨?_, by rw [h2]; exact h.ok.out, by rw [h1]; simp; omega⟩, h4, by rw [h5]; exact h.again, h.ls, h.ld, ?_, ?_, by rw [h2]; exact h.none_, ?_, fun j hj => h.frs j (by omega), fun j hj => h.frd j (by omega), ?_⟩
 ·intro p hp
  rw [h1] at hp
  rcases List.mem_append.1 hp with a | a
  ·exact h.ok.line p a
  ·have : p = ⟨((n + 1 : Nat) : Int), u, q⟩ := by simpa using a
   rw [this]; exact hq
 ·intro p hp
  rw [h1] at hp
  rcases List.mem_append.1 hp with a | a
  ·obtain ⟨j, e1, e2, e3, e4, e5⟩ := h.line p a
   exact ⟨j, e1, e2, by omega, e4, e5⟩
  ·have : p = ⟨((n + 1 : Nat) : Int), u, q⟩ := by simpa using a
   rw [this]
   exact ⟨n + 1, rfl, by omega, Nat.le_refl _, h.frs _ (by omega), h.frd _ (by omega)⟩
 ·rw [h1, List.map_append, List.nodup_append]
  refine ⟨h.nodup, by simp, fun x hx w hw => ?_⟩
  obtain ⟨z, hz, rfl⟩ := List.mem_map.1 hx
  have : w = ((n + 1 : Nat) : Int) := by simpa using hw
  obtain ⟨j, e1, _, e3, _⟩ := h.line z hz
  omega
 ·intro p hp
  rw [h2] at hp
  obtain ⟨j, e, j1, jn, hd, hs, t1, t2, eo, el, hz⟩ := h.some_ p hp
  refine ⟨j, e, j1, by omega, hd, by rw [h3]; exact hs, by rw [h3]; exact t1, by rw [h3]; exact t2, eo, el, fun z hz' => ?_⟩
  rw [h1] at hz'
  rcases List.mem_append.1 hz' with a | a
  ·exact hz z a
  ·have : z = ⟨((n + 1 : Nat) : Int), u, q⟩ := by simpa using a
   rw [this]; show ((n + 1 : Nat) : Int) ≠ p.t; omega
 ·unfold undone
  rw [h.frd (n + 1) (by omega), h.cnt]
  unfold countF
  rw [h1, h2]
  simp
  omega
theorem mid_go (h : Inv ag n s sn dn lp ov) (hn : n < 200) (hag : 0 ≤ ag) (ho : s.out = none) (t : Int) (r : Int → Int) : Mid ag n (goF s t r).1 sn dn lp ov none (goF s t r).2 := by
 unfold goF
 cases hg : findGo r t s.line with
 | none => exact Mid.same (h.same rfl ho.symm rfl rfl rfl)
 | some x =>
  obtain ⟨pre, y, post⟩ := x
  obtain ⟨g1, g2, g3⟩ := findGo_some hg
  have hy : y ∈ s.line := by rw [g1]; simp
  obtain ⟨j, e, j1, jn, hs, hd⟩ := h.line y hy
  refine ⟨fun _ _ e => (by cases e), fun p hp => ?_, h.go hn hag ho g1 rfl rfl rfl rfl rfl⟩
  cases hp
  exact ⟨j, e, j1, jn, by omega, hd, by omega, by omega, .inl (h.none_ ho), h.ok.line y hy⟩
theorem mid_step (h : Inv ag n s sn dn lp ov) (hn : n < 200) (hag : 0 ≤ ag) (ha2 : ag ≤ 16) (t : Int) : Mid ag n (stepF s t).1 sn dn lp ov ((stepF s t).2.2.map (fun t => (t, true))) (stepF s t).2.1 := by
 unfold stepF
 cases ho : s.out with
 | none => exact mid_go h hn hag ho t s.rest
 | some x =>
  obtain ⟨j, e, j1, jn, hd, hs, t1, t2, eo, el, hz⟩ := h.some_ x ho
  have okx := h.ok.out x ho
  dsimp only
  by_cases hq : wrap64 (t - s.last) < s.wait
  ·rw [if_pos hq]; exact Mid.same (h.same rfl ho.symm rfl rfl rfl)
  ·rw [if_neg hq]
   have hga := h.again
   by_cases hr : s.times ≤ s.again
   ·rw [if_pos hr]
    have hw : wrap64 (s.times + 1) = s.times + 1 := by unfold wrap64; omega
    refine ⟨fun _ _ e => (by cases e), fun p hp => ?_, h.againS hn ho (by omega) rfl rfl hw rfl rfl⟩
    cases hp
    exact ⟨j, e, j1, jn, by omega, hd, by omega, by omega, .inr eo.symm, okx⟩
   ·rw [if_neg hr]
    have hd1 := h.done (s1 := { s with out := none }) hn ho rfl rfl rfl rfl
    have hm := mid_go hd1 hn hag rfl t (lateR s x t)
    have e2 : goF { s with out := none } t (lateR s x t) = goF s t (lateR s x t) := rfl
    rw [e2] at hm
    refine ⟨fun t' late he => ?_, fun p hp => ?_, ?_⟩
    ·simp only [Option.map_some, Option.some.injEq, Prod.mk.injEq] at he
     obtain ⟨rfl, rfl⟩ := he
     exact ⟨j, e, j1, jn, by omega, hd, by omega, eo.symm, fun _ => by omega⟩
    ·obtain ⟨i, a1, a2, a3, a4, a5, a6, a7, a8, a9⟩ := hm.aOk p hp
     exact ⟨i, a1, a2, a3, a4, a5, a6, a7, a8, a9⟩
    ·exact hm.inv
theorem mid_came (h : Inv ag n s sn dn lp ov) (hn : n < 200) (t u : Int) (b : List Int) : Mid ag n (cameF s t u b).1 sn dn lp ov ((cameF s t u b).2.1.map (fun r => (r.1, false))) none := by
 unfold cameF
 cases ho : s.out with
 | none => exact Mid.same (h.same rfl ho.symm rfl rfl rfl)
 | some x =>
  obtain ⟨j, e, j1, jn, hd, hs, t1, t2, eo, el, hz⟩ := h.some_ x ho
  dsimp only
  by_cases hq : x.u ≠ u
  ·rw [if_pos hq]; exact Mid.same (h.same rfl ho.symm rfl rfl rfl)
  ·rw [if_neg hq]
   cases hp : parseQ x.q b with
   | none => exact Mid.same (h.same rfl ho.symm rfl rfl rfl)
   | some r =>
    obtain ⟨al, code⟩ := r
    refine ⟨fun t' late he => ?_, fun p hp => (by cases hp), h.done hn ho rfl rfl rfl rfl⟩
    simp only [Option.map_some, Option.some.injEq, Prod.mk.injEq] at he
    obtain ⟨rfl, rfl⟩ := he
    exact ⟨j, e, j1, jn, by omega, hd, by omega, eo.symm, fun h => by cases h⟩
theorem mid_ask (h : Inv ag n s sn dn lp ov) (hn : n < 190) (u : Int) (q : RQ) : ((askF s u q).2.2 = 0 ∧ (askF s u q).2.1 = ((n + 1 : Nat) : Int) ∧ Mid ag (n + 1) (askF s u q).1 sn dn lp ov none none) ∨ ((askF s u q).2.2 ≠ 0 ∧ Mid ag n (askF s u q).1 sn dn lp ov none none) := by
 have hw : wrap64 (s.tk + 1) = ((n + 1 : Nat) : Int) := by rw [h.tk]; unfold wrap64; omega
 unfold askF
 by_cases h1 : ¬ (0 ≤ u ∧ u ≤ 247) ∨ mayQ q = false
 ·rw [if_pos h1]; exact .inr ⟨(show (1 : Int) ≠ 0 by decide), Mid.same h⟩
 ·rw [if_neg h1]
  by_cases h2 : 64 ≤ s.line.length
  ·rw [if_pos h2]; exact .inr ⟨(show (6 : Int) ≠ 0 by decide), Mid.same h⟩
  ·rw [if_neg h2, hw]
   have hu : 0 ≤ u ∧ u ≤ 247 := by
    by_cases a : 0 ≤ u ∧ u ≤ 247
    ·exact a
    ·exact absurd (.inl a) h1
   have hm : mayQ q = true := by
    cases a : mayQ q
    ·exact absurd (.inr a) h1
    ·rfl
   exact .inl ⟨rfl, rfl, Mid.same (h.ask ⟨hm, hu⟩ (by omega) rfl rfl rfl rfl rfl)⟩
end
theorem inv0 (wt ag ps : Int) : Inv ag 0 (init wt ag ps) (List.replicate 200 0) (List.replicate 200 false) ⟨0, 0, PK.z31⟩ 0 :=
 ⟨⟨fun p hp => (by cases hp), fun p hp => (by cases hp), Nat.zero_le _⟩, rfl, rfl, List.length_replicate, List.length_replicate, fun p hp => (by cases hp), List.nodup_nil, fun _ => rfl, fun p hp => (by cases hp), fun j _ => (by rw [List.getD_eq_getElem?_getD, List.getElem?_replicate]; split <;> rfl), fun j _ => (by rw [List.getD_eq_getElem?_getD, List.getElem?_replicate]; split <;> rfl), rfl⟩
end Go.Proofs.Ytlalpooiegganaa.MthN
end

section
namespace Go.Proofs.Ytlalpooiegganaa.PK
open Go.RowKit Go.Proofs.YtlalpooiegganaaW.PrintWords Go.Proofs.YtlalpooiegganaaW.PrintLast Go.Proofs.YtlalpooiegganaaW.PrintMore
attribute [local go_sem] max2_int min2_int max_two min_two max_three min_three max_four min_four   
set_option linter.unusedVariables false
set_option linter.unusedSimpArgs false
open Go.Proofs.Ytlalpooiegganaa.Ext Go.Proofs.Ytlalpooiegganaa.PP Go.Proofs.Ytlalpooiegganaa.ExtF Go.Proofs.Ytlalpooiegganaa.ExtM Go.Proofs.Ytlalpooiegganaa.PG
def basculelaw07_few.l0 : Nat → List (S61) → Int → Option (Bool)
 | 0, _, _ => none
 | k + 1, x0, x3 => if x3 < (x0.length : Int) then (if 0 ≤ x3 then (if (((rd_T61 x0 x3).f3.f3).length : Int) > 300 then (some false) else (if (((rd_T61 x0 x3).f4).length : Int) > 300 then (some false) else (if ((rd_T61 x0 x3).f1) > 1000000000 then (some false) else (basculelaw07_few.l0 k x0 (wrap64 (x3 + 1)))))) else (none)) else (some true)
def basculelaw07_few.f (k : Nat) (l0 : List (S61)) : Option (Bool) := if (l0.length : Int) > 150 then (some false) else (basculelaw07_few.l0 k l0 0)
theorem basculelaw07_few.mono_l : ∀ k, (∀ y0 y1, LeO (basculelaw07_few.l0 k y0 y1) (basculelaw07_few.l0 (k + 1) y0 y1))
 | 0 => fun _ _ r h => by simp [basculelaw07_few.l0] at h
 | k + 1 => by
  have ih0 := basculelaw07_few.mono_l k
  ·intro y0 y1
   unfold basculelaw07_few.l0
   repeat' first
   | (with_reducible exact ih0 _ _)
   | (with_reducible exact LeO.refl _)
   | (with_reducible exact LeO.none _)
   | (with_reducible refine LeO.ite ?_ ?_)
   | (with_reducible refine LeO.bind ?_ (fun _ => ?_))
   | exact ih0 _ _
   | exact LeO.none _
   | refine LeO.ite ?_ ?_
   | refine LeO.bind ?_ (fun _ => ?_)
theorem basculelaw07_few.mono : ∀ a0 k, LeO (basculelaw07_few.f k a0) (basculelaw07_few.f (k + 1) a0) := by
 intro a0 k
 have ih0 := basculelaw07_few.mono_l k
 unfold basculelaw07_few.f
 repeat' first
  | (with_reducible exact ih0 _ _)
  | (with_reducible exact LeO.refl _)
  | (with_reducible exact LeO.none _)
  | (with_reducible refine LeO.ite ?_ ?_)
  | (with_reducible refine LeO.bind ?_ (fun _ => ?_))
  | exact ih0 _ _
  | exact LeO.none _
  | refine LeO.ite ?_ ?_
  | refine LeO.bind ?_ (fun _ => ?_)
set_option maxHeartbeats 8000000 in
set_option maxRecDepth 100000 in
theorem basculelaw07_few.calls (k : Nat) (A0 : Option Addr) (c0 : Nat) (l0 : List (S61)) (r : Bool) (w : World) (hr0 : Kd.C k61 w A0 l0.length l0) (hc0 : l0.length ≤ c0) (h : basculelaw07_few.f k l0 = some r) :
 Calls Try.prog 18 #[.slice A0 l0.length c0] w fun e w' => e = .returned (.bool r) ∧ Drawn0 w w' := by
 have HR0 := Aside0.mk hr0
 have HC0 := Aside0.mk hc0
 clear hr0 hc0
 have H : (if (l0.length : Int) > 150 then (some false) else (basculelaw07_few.l0 k l0 0)) = some r := h
 clear h
 by_cases c2 : (l0.length : Int) > 150
 ·rw [if_pos c2] at H
  have c2b0 : decide (150 < (l0.length : Int)) = true := decide_eq_true c2
  have c2b1 : decide (150 < l0.length) = true := decide_eq_true (by omega)
  clear c2
  obtain rfl := Option.some.inj H
  go_enter Try.func18, Try.ntmps18
  go_wp2
  go_ret
  exact ⟨by first | rfl | (simp; done) | (simp [*]; done), by repeat (first | exact Drawn0.refl _ | apply Drawn0.step)⟩
 ·rw [if_neg c2] at H
  have c2b0 : decide (150 < (l0.length : Int)) = false := decide_eq_false c2
  have c2b1 : decide (150 < l0.length) = false := decide_eq_false (by omega)
  clear c2
  have H' := Aside0.mk H
  clear H
  go_enter Try.func18, Try.ntmps18
  go_wp2
  go_loopg [3] k (fun kq v3 w' => ∃ (x3_1 : Int), v3 = .int .i64 x3_1 ∧ Aside0 (basculelaw07_few.l0 kq l0 x3_1 = some r) ∧ Aside0 (kq ≤ k) ∧ Drawn0 w w')
  case atStart => exact ⟨(0), (by first | rfl | (simp; done) | (simp [*]; done)), H', ⟨Nat.le_refl _⟩, by repeat (first | exact Drawn0.refl _ | apply Drawn0.step)⟩
  case round =>
   clear H'
   try clear c1
   try clear c2
   try clear c2b0
   try clear c2b1
   try clear p2
   obtain ⟨x3_1, rfl, HA, HK1, ⟨m1, rfl⟩⟩ := hrel
   cases gk with
   | zero => exact absurd HA.out (by simp [basculelaw07_few.l0])
   | succ k1 =>
    have H := HA.out
    clear HA
    simp only [basculelaw07_few.l0] at H
    by_cases c3 : x3_1 < (l0.length : Int)
    ·rw [if_pos c3] at H
     have c3b0 : decide (x3_1 < (l0.length : Int)) = true := decide_eq_true c3
     clear c3
     by_cases c4 : 0 ≤ x3_1
     ·rw [if_pos c4] at H
      have c4b0 : decide (0 ≤ x3_1) = true := decide_eq_true c4
      clear c4
      by_cases c5 : (((rd_T61 l0 x3_1).f3.f3).length : Int) > 300
      ·rw [if_pos c5] at H
       have c5b0 : decide (300 < (((rd_T61 l0 x3_1).f3.f3).length : Int)) = true := decide_eq_true c5
       have c5b1 : decide (300 < ((rd_T61 l0 x3_1).f3.f3).length) = true := decide_eq_true (by omega)
       clear c5
       obtain rfl := Option.some.inj H
       have p247 : 0 ≤ (x3_1 : Int) := of_decide_eq_true (by first | (with_reducible assumption) | assumption)
       have q247 : x3_1 < (l0.length : Int) := of_decide_eq_true (by first | (with_reducible assumption) | assumption)
       obtain ⟨ad247, A247_6, c247_6, A247_10, c247_10, e247, hx247_0, hx247_1, hx247_2, hx247_3, hx247_4, hx247_5, hx247_6, hx247_7, hx247_8, hx247_9, hx247_10, hx247_11, hl247_6, hi247_6, hl247_10, hi247_10⟩ := at_T61 HR0.out x3_1 p247 q247
       cases e247
       have HR247_6 := Aside0.mk hi247_6
       have HC247_6 := Aside0.mk hl247_6
       clear hi247_6 hl247_6
       have HR247_10 := Aside0.mk hi247_10
       have HC247_10 := Aside0.mk hl247_10
       clear hi247_10 hl247_10
       replace p247 := eq_true p247
       replace q247 := eq_true q247
       go_wp2
       go_ret
       exact ⟨by first | rfl | (simp; done) | (simp [*]; done), by repeat (first | exact Drawn0.refl _ | apply Drawn0.step)⟩
      ·rw [if_neg c5] at H
       have c5b0 : decide (300 < (((rd_T61 l0 x3_1).f3.f3).length : Int)) = false := decide_eq_false c5
       have c5b1 : decide (300 < ((rd_T61 l0 x3_1).f3.f3).length) = false := decide_eq_false (by omega)
       clear c5
       by_cases c6 : (((rd_T61 l0 x3_1).f4).length : Int) > 300
       ·rw [if_pos c6] at H
        have c6b0 : decide (300 < (((rd_T61 l0 x3_1).f4).length : Int)) = true := decide_eq_true c6
        have c6b1 : decide (300 < ((rd_T61 l0 x3_1).f4).length) = true := decide_eq_true (by omega)
        clear c6
        obtain rfl := Option.some.inj H
        have p247 : 0 ≤ (x3_1 : Int) := of_decide_eq_true (by first | (with_reducible assumption) | assumption)
        have q247 : x3_1 < (l0.length : Int) := of_decide_eq_true (by first | (with_reducible assumption) | assumption)
        obtain ⟨ad247, A247_6, c247_6, A247_10, c247_10, e247, hx247_0, hx247_1, hx247_2, hx247_3, hx247_4, hx247_5, hx247_6, hx247_7, hx247_8, hx247_9, hx247_10, hx247_11, hl247_6, hi247_6, hl247_10, hi247_10⟩ := at_T61 HR0.out x3_1 p247 q247
        cases e247
        have HR247_6 := Aside0.mk hi247_6
        have HC247_6 := Aside0.mk hl247_6
        clear hi247_6 hl247_6
        have HR247_10 := Aside0.mk hi247_10
        have HC247_10 := Aside0.mk hl247_10
        clear hi247_10 hl247_10
        replace p247 := eq_true p247
        replace q247 := eq_true q247
        have p248 : 0 ≤ (x3_1 : Int) := of_decide_eq_true (by first | (with_reducible assumption) | assumption)
        have q248 : x3_1 < (l0.length : Int) := of_decide_eq_true (by first | (with_reducible assumption) | assumption)
        obtain ⟨ad248, A248_6, c248_6, A248_10, c248_10, e248, hx248_0, hx248_1, hx248_2, hx248_3, hx248_4, hx248_5, hx248_6, hx248_7, hx248_8, hx248_9, hx248_10, hx248_11, hl248_6, hi248_6, hl248_10, hi248_10⟩ := at_T61 HR0.out x3_1 p248 q248
        obtain rfl : ad247 = ad248 := (by injection e248)
        have HR248_6 := Aside0.mk hi248_6
        have HC248_6 := Aside0.mk hl248_6
        clear hi248_6 hl248_6
        have HR248_10 := Aside0.mk hi248_10
        have HC248_10 := Aside0.mk hl248_10
        clear hi248_10 hl248_10
        replace p248 := eq_true p248
        replace q248 := eq_true q248
        have ea_ := Option.some.inj (hx247_6.symm.trans hx248_6)
        injection ea_ with ea_ en_ ec_
        subst ea_
        subst ec_
        clear en_
        have ea_ := Option.some.inj (hx247_10.symm.trans hx248_10)
        injection ea_ with ea_ en_ ec_
        subst ea_
        subst ec_
        clear en_
        go_wp2
        go_ret
        exact ⟨by first | rfl | (simp; done) | (simp [*]; done), by repeat (first | exact Drawn0.refl _ | apply Drawn0.step)⟩
       ·rw [if_neg c6] at H
        have c6b0 : decide (300 < (((rd_T61 l0 x3_1).f4).length : Int)) = false := decide_eq_false c6
        have c6b1 : decide (300 < ((rd_T61 l0 x3_1).f4).length) = false := decide_eq_false (by omega)
        clear c6
        by_cases c7 : ((rd_T61 l0 x3_1).f1) > 1000000000
        ·rw [if_pos c7] at H
         have c7b0 : decide (1000000000 < ((rd_T61 l0 x3_1).f1)) = true := decide_eq_true c7
         clear c7
         obtain rfl := Option.some.inj H
         have p247 : 0 ≤ (x3_1 : Int) := of_decide_eq_true (by first | (with_reducible assumption) | assumption)
         have q247 : x3_1 < (l0.length : Int) := of_decide_eq_true (by first | (with_reducible assumption) | assumption)
         obtain ⟨ad247, A247_6, c247_6, A247_10, c247_10, e247, hx247_0, hx247_1, hx247_2, hx247_3, hx247_4, hx247_5, hx247_6, hx247_7, hx247_8, hx247_9, hx247_10, hx247_11, hl247_6, hi247_6, hl247_10, hi247_10⟩ := at_T61 HR0.out x3_1 p247 q247
         cases e247
         have HR247_6 := Aside0.mk hi247_6
         have HC247_6 := Aside0.mk hl247_6
         clear hi247_6 hl247_6
         have HR247_10 := Aside0.mk hi247_10
         have HC247_10 := Aside0.mk hl247_10
         clear hi247_10 hl247_10
         replace p247 := eq_true p247
         replace q247 := eq_true q247
         have p248 : 0 ≤ (x3_1 : Int) := of_decide_eq_true (by first | (with_reducible assumption) | assumption)
         have q248 : x3_1 < (l0.length : Int) := of_decide_eq_true (by first | (with_reducible assumption) | assumption)
         obtain ⟨ad248, A248_6, c248_6, A248_10, c248_10, e248, hx248_0, hx248_1, hx248_2, hx248_3, hx248_4, hx248_5, hx248_6, hx248_7, hx248_8, hx248_9, hx248_10, hx248_11, hl248_6, hi248_6, hl248_10, hi248_10⟩ := at_T61 HR0.out x3_1 p248 q248
         obtain rfl : ad247 = ad248 := (by injection e248)
         have HR248_6 := Aside0.mk hi248_6
         have HC248_6 := Aside0.mk hl248_6
         clear hi248_6 hl248_6
         have HR248_10 := Aside0.mk hi248_10
         have HC248_10 := Aside0.mk hl248_10
         clear hi248_10 hl248_10
         replace p248 := eq_true p248
         replace q248 := eq_true q248
         have ea_ := Option.some.inj (hx247_6.symm.trans hx248_6)
         injection ea_ with ea_ en_ ec_
         subst ea_
         subst ec_
         clear en_
         have ea_ := Option.some.inj (hx247_10.symm.trans hx248_10)
         injection ea_ with ea_ en_ ec_
         subst ea_
         subst ec_
         clear en_
         have p249 : 0 ≤ (x3_1 : Int) := of_decide_eq_true (by first | (with_reducible assumption) | assumption)
         have q249 : x3_1 < (l0.length : Int) := of_decide_eq_true (by first | (with_reducible assumption) | assumption)
         obtain ⟨ad249, A249_6, c249_6, A249_10, c249_10, e249, hx249_0, hx249_1, hx249_2, hx249_3, hx249_4, hx249_5, hx249_6, hx249_7, hx249_8, hx249_9, hx249_10, hx249_11, hl249_6, hi249_6, hl249_10, hi249_10⟩ := at_T61 HR0.out x3_1 p249 q249
         obtain rfl : ad247 = ad249 := (by injection e249)
         have HR249_6 := Aside0.mk hi249_6
         have HC249_6 := Aside0.mk hl249_6
         clear hi249_6 hl249_6
         have HR249_10 := Aside0.mk hi249_10
         have HC249_10 := Aside0.mk hl249_10
         clear hi249_10 hl249_10
         replace p249 := eq_true p249
         replace q249 := eq_true q249
         have ea_ := Option.some.inj (hx247_6.symm.trans hx249_6)
         injection ea_ with ea_ en_ ec_
         subst ea_
         subst ec_
         clear en_
         have ea_ := Option.some.inj (hx247_10.symm.trans hx249_10)
         injection ea_ with ea_ en_ ec_
         subst ea_
         subst ec_
         clear en_
         go_wp2
         go_ret
         exact ⟨by first | rfl | (simp; done) | (simp [*]; done), by repeat (first | exact Drawn0.refl _ | apply Drawn0.step)⟩
        ·rw [if_neg c7] at H
         have c7b0 : decide (1000000000 < ((rd_T61 l0 x3_1).f1)) = false := decide_eq_false c7
         clear c7
         have H' := Aside0.mk H
         clear H
         have p247 : 0 ≤ (x3_1 : Int) := of_decide_eq_true (by first | (with_reducible assumption) | assumption)
         have q247 : x3_1 < (l0.length : Int) := of_decide_eq_true (by first | (with_reducible assumption) | assumption)
         obtain ⟨ad247, A247_6, c247_6, A247_10, c247_10, e247, hx247_0, hx247_1, hx247_2, hx247_3, hx247_4, hx247_5, hx247_6, hx247_7, hx247_8, hx247_9, hx247_10, hx247_11, hl247_6, hi247_6, hl247_10, hi247_10⟩ := at_T61 HR0.out x3_1 p247 q247
         cases e247
         have HR247_6 := Aside0.mk hi247_6
         have HC247_6 := Aside0.mk hl247_6
         clear hi247_6 hl247_6
         have HR247_10 := Aside0.mk hi247_10
         have HC247_10 := Aside0.mk hl247_10
         clear hi247_10 hl247_10
         replace p247 := eq_true p247
         replace q247 := eq_true q247
         have p248 : 0 ≤ (x3_1 : Int) := of_decide_eq_true (by first | (with_reducible assumption) | assumption)
         have q248 : x3_1 < (l0.length : Int) := of_decide_eq_true (by first | (with_reducible assumption) | assumption)
         obtain ⟨ad248, A248_6, c248_6, A248_10, c248_10, e248, hx248_0, hx248_1, hx248_2, hx248_3, hx248_4, hx248_5, hx248_6, hx248_7, hx248_8, hx248_9, hx248_10, hx248_11, hl248_6, hi248_6, hl248_10, hi248_10⟩ := at_T61 HR0.out x3_1 p248 q248
         obtain rfl : ad247 = ad248 := (by injection e248)
         have HR248_6 := Aside0.mk hi248_6
         have HC248_6 := Aside0.mk hl248_6
         clear hi248_6 hl248_6
         have HR248_10 := Aside0.mk hi248_10
         have HC248_10 := Aside0.mk hl248_10
         clear hi248_10 hl248_10
         replace p248 := eq_true p248
         replace q248 := eq_true q248
         have ea_ := Option.some.inj (hx247_6.symm.trans hx248_6)
         injection ea_ with ea_ en_ ec_
         subst ea_
         subst ec_
         clear en_
         have ea_ := Option.some.inj (hx247_10.symm.trans hx248_10)
         injection ea_ with ea_ en_ ec_
         subst ea_
         subst ec_
         clear en_
         have p249 : 0 ≤ (x3_1 : Int) := of_decide_eq_true (by first | (with_reducible assumption) | assumption)
         have q249 : x3_1 < (l0.length : Int) := of_decide_eq_true (by first | (with_reducible assumption) | assumption)
         obtain ⟨ad249, A249_6, c249_6, A249_10, c249_10, e249, hx249_0, hx249_1, hx249_2, hx249_3, hx249_4, hx249_5, hx249_6, hx249_7, hx249_8, hx249_9, hx249_10, hx249_11, hl249_6, hi249_6, hl249_10, hi249_10⟩ := at_T61 HR0.out x3_1 p249 q249
         obtain rfl : ad247 = ad249 := (by injection e249)
         have HR249_6 := Aside0.mk hi249_6
         have HC249_6 := Aside0.mk hl249_6
         clear hi249_6 hl249_6
         have HR249_10 := Aside0.mk hi249_10
         have HC249_10 := Aside0.mk hl249_10
         clear hi249_10 hl249_10
         replace p249 := eq_true p249
         replace q249 := eq_true q249
         have ea_ := Option.some.inj (hx247_6.symm.trans hx249_6)
         injection ea_ with ea_ en_ ec_
         subst ea_
         subst ec_
         clear en_
         have ea_ := Option.some.inj (hx247_10.symm.trans hx249_10)
         injection ea_ with ea_ en_ ec_
         subst ea_
         subst ec_
         clear en_
         go_wp2
         go_roundg k1
         case measure => have := HK1.out; omega
         case rel => exact ⟨(wrap64 (x3_1 + 1)), (by first | rfl | (simp; done) | (simp [*]; done)), H', ⟨by have := HK1.out; omega⟩, by repeat (first | exact Drawn0.refl _ | apply Drawn0.step)⟩
     ·rw [if_neg c4] at H
      exact absurd H (by simp)
    ·rw [if_neg c3] at H
     have c3b0 : decide (x3_1 < (l0.length : Int)) = false := decide_eq_false c3
     clear c3
     obtain rfl := Option.some.inj H
     go_wp2
     go_ret
     exact ⟨by first | rfl | (simp; done) | (simp [*]; done), by repeat (first | exact Drawn0.refl _ | apply Drawn0.step)⟩
end Go.Proofs.Ytlalpooiegganaa.PK
end

section
namespace Go.Proofs.Ytlalpooiegganaa.MsgT
open Go.RowKit Go.Proofs.YtlalpooiegganaaW.PrintWords Go.Proofs.YtlalpooiegganaaW.PrintLast Go.Proofs.YtlalpooiegganaaW.PrintMore Go.Proofs.Ytlalpooiegganaa.Core Go.Proofs.Ytlalpooiegganaa.Wk Go.Proofs.Ytlalpooiegganaa.PMasterWaits Go.Proofs.Ytlalpooiegganaa.Msg Go.Proofs.Ytlalpooiegganaa.MsgB Go.Proofs.Ytlalpooiegganaa.MsgD Go.Proofs.Ytlalpooiegganaa.MsgP Go.Proofs.Ytlalpooiegganaa.MsgS Go.Proofs.Ytlalpooiegganaa.MthN
set_option linter.unusedVariables false
set_option linter.unusedSimpArgs false
abbrev OP := PK.S61
structure ElO (w : World) (ad : Addr) (k : Nat) (A6 : Option Addr) (c6 : Nat) (A10 : Option Addr) (c10 : Nat) (o : OP) : Prop where
 cells : ∀ W, Below w.heap.size w W → W.cell? (ad.add (k * 12)) = some (.int .i64 o.f0) ∧ W.cell? ⟨(ad.add (k * 12)).block, (ad.add (k * 12)).off + 1, none⟩ = some (.int .i64 o.f1) ∧ W.cell? ⟨(ad.add (k * 12)).block, (ad.add (k * 12)).off + 2, none⟩ = some (.int .i64 o.f2) ∧ W.cell? ⟨(ad.add (k * 12)).block, (ad.add (k * 12)).off + 3, none⟩ = some (.int .i64 o.f3.f0) ∧ W.cell? ⟨(ad.add (k * 12)).block, (ad.add (k * 12)).off + 4, none⟩ = some (.int .i64 o.f3.f1) ∧ W.cell? ⟨(ad.add (k * 12)).block, (ad.add (k * 12)).off + 5, none⟩ = some (.int .i64 o.f3.f2) ∧ W.cell? ⟨(ad.add (k * 12)).block, (ad.add (k * 12)).off + 6, none⟩ = some (.slice A6 o.f3.f3.length c6) ∧ W.cell? ⟨(ad.add (k * 12)).block, (ad.add (k * 12)).off + 7, none⟩ = some (.int .i64 o.f3.f4) ∧ W.cell? ⟨(ad.add (k * 12)).block, (ad.add (k * 12)).off + 8, none⟩ = some (.int .i64 o.f3.f5) ∧ W.cell? ⟨(ad.add (k * 12)).block, (ad.add (k * 12)).off + 9, none⟩ = some (.int .i64 o.f3.f6) ∧ W.cell? ⟨(ad.add (k * 12)).block, (ad.add (k * 12)).off + 10, none⟩ = some (.slice A10 o.f4.length c10) ∧ W.cell? ⟨(ad.add (k * 12)).block, (ad.add (k * 12)).off + 11, none⟩ = some (.int .i64 o.f5)
 cap : o.f4.length ≤ c10
 row : ∀ W, Below w.heap.size w W → Kd.C (Kd.int .i64) W A6 o.f3.f3.length o.f3.f3
 pdu : ∀ W, Below w.heap.size w W → Kd.C (Kd.int .u8) W A10 o.f4.length o.f4
theorem el_at {w : World} {A : Option Addr} {os : List OP} (h : Kd.C PK.k61 w A os.length os) (k : Nat) (hk : k < os.length) : ∃ ad A6 c6 A10 c10, A = some ad ∧ ElO w ad k A6 c6 A10 c10 (os.getD k PK.z61) := by
 obtain ⟨ad, A6, c6, A10, c10, e, h0, h1, h2, h3, h4, h5, h6, h7, h8, h9, h10, h11, l6, g6, l10, g10⟩ := PK.at_T61 h (k : Int) (by omega) (by omega)
 have e1 : PK.rd_T61 os (k : Int) = os.getD k PK.z61 := by unfold PK.rd_T61; rw [Int.toNat_natCast]
 rw [Int.toNat_natCast, e1] at h0 h1 h2 h3 h4 h5 h6 h7 h8 h9 h10 h11
 rw [e1] at l6 g6 l10 g10
 refine ⟨ad, A6, c6, A10, c10, e, ⟨fun W hW => ?_, l10, fun W hW => Kd.C_below g6 hW, fun W hW => Kd.C_below g10 hW⟩⟩
 have mv : ∀ {a : Addr} {v : Value}, w.cell? a = some v → W.cell? a = some v := fun hx => (hW.cell (World.block_lt_of_cell? w _ hx)).trans hx
 exact ⟨mv h0, mv h1, mv h2, mv h3, mv h4, mv h5, mv h6, mv h7, mv h8, mv h9, mv h10, mv h11⟩
theorem ElO.ever {w W : World} {ad : Addr} {k c6 c10 : Nat} {A6 A10 : Option Addr} {o : OP} {M : Nat → Prop} (h : ElO w ad k A6 c6 A10 c10 o) (hB : Below w.heap.size w W) (hM : ∀ k, M k → w.heap.size ≤ k) : Ever M W (fun W => Kd.C (Kd.int .i64) W A6 o.f3.f3.length o.f3.f3) :=
 ⟨fun W1 h1 => h.row W1 ((Ext.of_below (M := M) hB |>.trans h1).below hM)⟩
theorem ElO.everb {w W : World} {ad : Addr} {k c6 c10 : Nat} {A6 A10 : Option Addr} {o : OP} {M : Nat → Prop} (h : ElO w ad k A6 c6 A10 c10 o) (hB : Below w.heap.size w W) (hM : ∀ k, M k → w.heap.size ≤ k) : Ever M W (fun W => Kd.C (Kd.int .u8) W A10 o.f4.length o.f4) :=
 ⟨fun W1 h1 => h.pdu W1 ((Ext.of_below (M := M) hB |>.trans h1).below hM)⟩
def FewO (os : List OP) : Prop := os.length ≤ 150 ∧ ∀ o ∈ os, o.f3.f3.length ≤ 300 ∧ o.f4.length ≤ 300 ∧ o.f1 ≤ 1000000000
theorem few_l (os : List OP) (hl : os.length ≤ 150) : ∀ (d i k : Nat), i + d = os.length → d + 1 ≤ k → ∃ r, PK.basculelaw07_few.l0 k os (i : Int) = some r ∧ (r = true → ∀ j, i ≤ j → ∀ o, os[j]? = some o → o.f3.f3.length ≤ 300 ∧ o.f4.length ≤ 300 ∧ o.f1 ≤ 1000000000)
 | 0, i, k, hi, hk => by
  obtain ⟨k, rfl⟩ := Nat.exists_eq_add_of_le' (show 1 ≤ k by omega)
  refine ⟨true, by rw [PK.basculelaw07_few.l0, if_neg (by omega)], fun _ j hj o ho => ?_⟩
  have := (List.getElem?_eq_some_iff.1 ho).1
  omega
 | d + 1, i, k, hi, hk => by
  obtain ⟨k, rfl⟩ := Nat.exists_eq_add_of_le' (show 1 ≤ k by omega)
  have hw : wrap64 ((i : Int) + 1) = ((i + 1 : Nat) : Int) := by unfold wrap64; omega
  have hr : PK.rd_T61 os (i : Int) = os.getD i PK.z61 := by unfold PK.rd_T61; rw [Int.toNat_natCast]
  obtain ⟨r, h1, h2⟩ := few_l os hl d (i + 1) k (by omega) (by omega)
  rw [PK.basculelaw07_few.l0, if_pos (by omega), if_pos (by omega), hr, hw, h1]
  by_cases a : ((os.getD i PK.z61).f3.f3.length : Int) > 300
  ·rw [if_pos a]; exact ⟨false, rfl, fun h => by cases h⟩
  rw [if_neg a]
  by_cases b : ((os.getD i PK.z61).f4.length : Int) > 300
  ·rw [if_pos b]; exact ⟨false, rfl, fun h => by cases h⟩
  rw [if_neg b]
  by_cases c : (os.getD i PK.z61).f1 > 1000000000
  ·rw [if_pos c]; exact ⟨false, rfl, fun h => by cases h⟩
  rw [if_neg c]
  refine ⟨r, rfl, fun hr j hj o ho => ?_⟩
  by_cases e : j = i
  ·subst e
   have : os.getD j PK.z61 = o := by rw [List.getD_eq_getElem?_getD, ho]; rfl
   rw [this] at a b c
   omega
  ·exact h2 hr j (by omega) o ho
theorem few_f (os : List OP) : ∃ r, PK.basculelaw07_few.f 200 os = some r ∧ (r = true → FewO os) := by
 unfold PK.basculelaw07_few.f
 by_cases h : (os.length : Int) > 150
 ·rw [if_pos h]; exact ⟨false, rfl, fun h => by cases h⟩
 rw [if_neg h]
 obtain ⟨r, h1, h2⟩ := few_l os (by omega) os.length 0 200 (by omega) (by omega)
 refine ⟨r, h1, fun hr => ⟨by omega, fun o ho => ?_⟩⟩
 obtain ⟨j, hj, rfl⟩ := List.mem_iff_getElem.1 ho
 exact h2 hr j (Nat.zero_le _) _ (List.getElem?_eq_getElem hj)
theorem FewO.at_ {os : List OP} (h : FewO os) {k : Nat} (hk : k < os.length) : (os.getD k PK.z61).f3.f3.length ≤ 300 ∧ (os.getD k PK.z61).f4.length ≤ 300 ∧ (os.getD k PK.z61).f1 ≤ 1000000000 := by
 rw [List.getD_eq_getElem?_getD, List.getElem?_eq_getElem hk]
 exact h.2 _ (List.getElem_mem hk)
theorem few_q {A : Option Addr} {c : Nat} {os : List OP} {w : World} (h : Kd.C PK.k61 w A os.length os) (hc : os.length ≤ c) {r : Bool} (hr : PK.basculelaw07_few.f 200 os = some r) : Calls Try.prog 18 #[.slice A os.length c] w fun e w' => e = .returned (.bool r) ∧ Below w.heap.size w w' :=
 (PK.basculelaw07_few.calls 200 A c os r w h hc hr).mono (fun e w' ⟨a, b⟩ => ⟨a, b.below⟩)
def pcl (p : PQ) (A : Option Addr) (k : Nat) : Array Value := #[.int .i64 p.t, .int .i64 p.u, .int .i64 p.q.f0, .int .i64 p.q.f1, .int .i64 p.q.f2, .slice A p.q.f3.length k, .int .i64 p.q.f4, .int .i64 p.q.f5, .int .i64 p.q.f6]
structure St (w : World) (B g m gs gd gl : Nat) (W : World) (s : PS) (sn : List Int) (dn : List Bool) (lp : PQ) (Al : Option Addr) (kl : Nat) : Prop where
 p : IsP B W g m s
 bs : W.heap[gs]? = some (.cells (sn.map (Value.int .i64)).toArray 67 (0, 0))
 bd : W.heap[gd]? = some (.cells (dn.map Value.bool).toArray 68 (0, 0))
 bl : W.heap[gl]? = some (.cells (pcl lp Al kl) 39 (0, 0))
 rl : IRow W Al lp.q.f3.length lp.q.f3
 cl : lp.q.f3.length ≤ kl
 lo : gs < B ∧ gd < B ∧ gl < B
 sz : B ≤ W.heap.size
 ge : w.heap.size ≤ g ∧ w.heap.size ≤ m ∧ w.heap.size ≤ gs ∧ w.heap.size ≤ gd ∧ w.heap.size ≤ gl ∧ w.heap.size ≤ B
 be : Below w.heap.size w W
section
variable {w : World} {B g m gs gd gl : Nat} {W W' : World} {s s' : PS} {sn : List Int} {dn : List Bool} {lp : PQ} {Al : Option Addr} {kl : Nat}
theorem St.mm (h : St w B g m gs gd gl W s sn dn lp Al kl) : ∀ k, Mm B g m k → w.heap.size ≤ k := fun k e => by
 have := h.ge
 rcases e with e | e | e <;> omega
theorem St.gm (h : St w B g m gs gd gl W s sn dn lp Al kl) : ∀ k, k = g → w.heap.size ≤ k := fun k e => by
 have := h.ge
 omega
theorem St.below (h : St w B g m gs gd gl W s sn dn lp Al kl) (k : Below W.heap.size W W') : St w B g m gs gd gl W' s sn dn lp Al kl :=
 ⟨h.p.below k, blk_below h.bs k, blk_below h.bd k, blk_below h.bl k, irow_below h.rl k, h.cl, h.lo, Nat.le_trans h.sz k.size, h.ge, below_step h.be k⟩
theorem St.call (h : St w B g m gs gd gl W s sn dn lp Al kl) (hp : IsP B W' g m s') (hx : Ext (Mm B g m) W W') (hk : Keeps W W') : St w B g m gs gd gl W' s' sn dn lp Al kl := by
 have hg := h.ge
 have hl := h.lo
 have hgl : ¬ Mm B g m gl := fun e => by
  rcases e with e | e | e
  ·exact h.p.apart h.bl (by decide) (.inl e)
  ·exact h.p.apart h.bl (by decide) (.inr e)
  ·omega
 exact ⟨hp, hk _ _ _ h.bs (by decide) (by decide), hk _ _ _ h.bd (by decide) (by decide), Ext.blk hx h.bl hgl, hk.row h.rl, h.cl, h.lo, Nat.le_trans h.sz hx.size, h.ge, belowT h.be (extM hx hg.1 hg.2.1 hg.2.2.2.2.2 h.be.size)⟩
theorem IsP.set {cs : Array Value} {T : TypeId} {gb : Nat} (h : IsP B W g m s) (k : Ext (fun k => k = gb) W W') (hb : W.heap[gb]? = some (.cells cs T (0, 0))) (hT : T ≠ 73) (hB : gb < B) (hi : T ≠ 3) : IsP B W' g m s := by
 obtain ⟨L, o, h1, h2, h3⟩ := h.out
 obtain ⟨vl, vo, a1, a2, a3⟩ := h1.out
 obtain ⟨f, n, b1, b2⟩ := h1.mp
 have hrow : ∀ {A : Option Addr} {l : Nat} {vs : List Int}, IRow W A l vs → IRow W' A l vs := fun h => irow_set h k hb hi
 have hcs : ∀ {L : List SV} {ps : List PQ}, Corrs W L ps → Corrs W' L ps := by
  intro L ps
  induction L generalizing ps with
  | nil => intro h; cases ps with
   | nil => exact trivial
   | cons _ _ => exact h.elim
  | cons x xs ih => intro h; cases ps with
   | nil => exact h.elim
   | cons p ps => obtain ⟨⟨c1, c2, c3, c4, c5, c6, c7, c8, c9, c10, c11⟩, c⟩ := h; exact ⟨⟨c1, c2, c3, c4, c5, c6, c7, c8, c9, c10, hrow c11⟩, ih c⟩
 have hco : CorrO W o s.out → CorrO W' o s.out := by
  intro h
  cases o with
  | none => cases hs : s.out with
   | none => exact trivial
   | some _ => rw [hs] at h; exact h.elim
  | some x => cases hs : s.out with
   | none => rw [hs] at h; exact h.elim
   | some p => rw [hs] at h; obtain ⟨c1, c2, c3, c4, c5, c6, c7, c8, c9, c10, c11⟩ := h; exact ⟨c1, c2, c3, c4, c5, c6, c7, c8, c9, c10, hrow c11⟩
 refine ⟨⟨L, o, ⟨⟨vl, vo, Ext.blk k a1 (blk_ne a1 hb hT.symm), ks_mv a2 k (fun j hj e => ?_), ?_⟩, ⟨f, n, b1.ext k (fun e => cell_nm hb b1 e.symm), b2⟩⟩, hcs h2, hco h3⟩⟩
 ·have := a2.base_le j hj
  have e : j = gb := e
  omega
 ·cases o with
  | none => exact a3
  | some x =>
   obtain ⟨go, d1, d2, d3, d4⟩ := a3
   exact ⟨go, d1, Ext.blk k d2 (fun e => by have e : go = gb := e; omega), d3, d4⟩
theorem IsP.set2 {cs : Array Value} {T : TypeId} {gb : Nat} (h : IsP B W g m s) (k : Ext (fun k => k = gb) W W') (hb : W.heap[gb]? = some (.cells cs T (0, 0))) (hT : T ≠ 73) (hB : T ≠ 39) (hi : T ≠ 3) : IsP B W' g m s := by
 obtain ⟨L, o, h1, h2, h3⟩ := h.out
 obtain ⟨vl, vo, a1, a2, a3⟩ := h1.out
 obtain ⟨f, n, b1, b2⟩ := h1.mp
 have hrow : ∀ {A : Option Addr} {l : Nat} {vs : List Int}, IRow W A l vs → IRow W' A l vs := fun h => irow_set h k hb hi
 have hcs : ∀ {L : List SV} {ps : List PQ}, Corrs W L ps → Corrs W' L ps := by
  intro L ps
  induction L generalizing ps with
  | nil => intro h; cases ps with
   | nil => exact trivial
   | cons _ _ => exact h.elim
  | cons x xs ih => intro h; cases ps with
   | nil => exact h.elim
   | cons p ps => obtain ⟨⟨c1, c2, c3, c4, c5, c6, c7, c8, c9, c10, c11⟩, c⟩ := h; exact ⟨⟨c1, c2, c3, c4, c5, c6, c7, c8, c9, c10, hrow c11⟩, ih c⟩
 have hco : CorrO W o s.out → CorrO W' o s.out := by
  intro h
  cases o with
  | none => cases hs : s.out with
   | none => exact trivial
   | some _ => rw [hs] at h; exact h.elim
  | some x => cases hs : s.out with
   | none => rw [hs] at h; exact h.elim
   | some p => rw [hs] at h; obtain ⟨c1, c2, c3, c4, c5, c6, c7, c8, c9, c10, c11⟩ := h; exact ⟨c1, c2, c3, c4, c5, c6, c7, c8, c9, c10, hrow c11⟩
 refine ⟨⟨L, o, ⟨⟨vl, vo, Ext.blk k a1 (blk_ne a1 hb hT.symm), ks_mv a2 k (fun j hj e => ks_ne a2 hb hB j hj e), ?_⟩, ⟨f, n, b1.ext k (fun e => cell_nm hb b1 e.symm), b2⟩⟩, hcs h2, hco h3⟩⟩
 cases o with
 | none => exact a3
 | some x =>
  obtain ⟨go, d1, d2, d3, d4⟩ := a3
  exact ⟨go, d1, Ext.blk k d2 (blk_ne d2 hb hB.symm), d3, d4⟩
theorem St.over {go : Nat} {cs : Array Value} {T : TypeId} (h : St w B g m gs gd gl W s sn dn lp Al kl) (k : Ext (fun k => k = go) W W') (hb : W.heap[go]? = some (.cells cs T (0, 0))) (h1 : T ≠ 73) (h2 : T ≠ 39) (h3 : T ≠ 3) (h4 : T ≠ 67) (h5 : T ≠ 68) (hg : w.heap.size ≤ go) : St w B g m gs gd gl W' s sn dn lp Al kl :=
 ⟨IsP.set2 h.p k hb h1 h2 h3, Ext.blk k h.bs (blk_ne h.bs hb h4.symm), Ext.blk k h.bd (blk_ne h.bd hb h5.symm), Ext.blk k h.bl (blk_ne h.bl hb h2.symm), irow_set h.rl k hb h3, h.cl, h.lo, Nat.le_trans h.sz k.size, h.ge, ⟨k.os.trans h.be.os, k.tape.trans h.be.tape, k.output.trans h.be.output, Nat.le_trans h.be.size k.size, fun i hi => (k.block i (Nat.lt_of_lt_of_le hi h.be.size) (fun e => by have e : i = go := e; omega)).trans (h.be.block i hi)⟩⟩
theorem st0_ {w4 w5 : World} {wt ag ps : Int} {cs : Array Value} (hI : ∀ B, IsP B w4 g m (init wt ag ps)) (h1 : w4.heap[gs]? = some (.cells ((List.replicate 200 (0 : Int)).map (Value.int .i64)).toArray 67 (0, 0))) (h2 : w4.heap[gd]? = some (.cells ((List.replicate 200 false).map Value.bool).toArray 68 (0, 0))) (h3 : w4.heap[gl]? = some (.cells cs 39 (0, 0))) (h4 : w5.heap[gl]? = some (.cells (pcl ⟨0, 0, PK.z31⟩ none 0) 39 (0, 0))) (k : Ext (fun k => k = gl) w4 w5)
 (a1 : w.heap.size ≤ g) (a2 : w.heap.size ≤ m) (a3 : w.heap.size ≤ gs) (a4 : w.heap.size ≤ gd) (a5 : w.heap.size ≤ gl) (hb : Below w.heap.size w w4) : St w w5.heap.size g m gs gd gl w5 (init wt ag ps) (List.replicate 200 0) (List.replicate 200 false) ⟨0, 0, PK.z31⟩ none 0 := by
 have b1 := Ext.blk k h1 (blk_ne h1 h3 (by decide))
 have b2 := Ext.blk k h2 (blk_ne h2 h3 (by decide))
 have hB : Below w.heap.size w w5 := ⟨k.os.trans hb.os, k.tape.trans hb.tape, k.output.trans hb.output, Nat.le_trans hb.size k.size, fun i hi => (k.block i (Nat.lt_of_lt_of_le hi hb.size) (fun e => by have e : i = gl := e; omega)).trans (hb.block i hi)⟩
 refine ⟨IsP.set (hI w5.heap.size) k h3 (by decide) (blk_lt h4) (by decide), b1, b2, h4, irow_nil, Nat.le_refl _, ⟨blk_lt b1, blk_lt b2, blk_lt h4⟩, Nat.le_refl _, ⟨a1, a2, a3, a4, a5, hB.size⟩, hB⟩
theorem lp_may {ag : Int} {n : Nat} {ov : Int} (h : Inv ag n s sn dn lp ov) (ho : 0 < ov) : mayQ lp.q = true := by
 cases e : s.out with
 | none => have := h.none_ e; omega
 | some p => obtain ⟨j, _, _, _, _, _, _, _, _, e2, _⟩ := h.some_ p e; rw [e2]; exact (h.ok.out p e).1
theorem sent_set {v : Value} {a : Option PQ} {gb j : Nat} {x : Value} {cs : Array Value} {T : TypeId} (h : SentP W v a) (hw : W' = W.setCell ⟨gb, j, none⟩ x) (hb : W.heap[gb]? = some (.cells cs T (0, 0))) (h1 : T ≠ 39) (h2 : T ≠ 3) : SentP W' v a := by
 have k : Ext (fun k => k = gb) W W' := by rw [hw]; exact (Ext.refl _ _).setg _
 cases a with
 | none => exact h
 | some p => obtain ⟨ga, c, A, kk, e, hg, hk, hr⟩ := h; exact ⟨ga, c, A, kk, e, Ext.blk k hg (blk_ne hg hb h1.symm), hk, irow_set hr k hb h2⟩
theorem blk_row {gb j ga : Nat} {x : Value} {cs cs2 : Array Value} {T T2 : TypeId} (hw : W' = W.setCell ⟨gb, j, none⟩ x) (hb : W.heap[gb]? = some (.cells cs T (0, 0))) (h : W.heap[ga]? = some (.cells cs2 T2 (0, 0))) (h1 : T2 ≠ T) : W'.heap[ga]? = some (.cells cs2 T2 (0, 0)) := by
 have k : Ext (fun k => k = gb) W W' := by rw [hw]; exact (Ext.refl _ _).setg _
 exact Ext.blk k h (blk_ne h hb h1)
theorem irow_row {gb j l : Nat} {A : Option Addr} {vs : List Int} {x : Value} {cs : Array Value} {T : TypeId} (hw : W' = W.setCell ⟨gb, j, none⟩ x) (h : IRow W A l vs) (hb : W.heap[gb]? = some (.cells cs T (0, 0))) (h1 : T ≠ 3) : IRow W' A l vs := by
 have k : Ext (fun k => k = gb) W W' := by rw [hw]; exact (Ext.refl _ _).setg _
 exact irow_set h k hb h1
theorem St.setS (h : St w B g m gs gd gl W s sn dn lp Al kl) {j : Nat} {v : Int} (hw : W' = W.setCell ⟨gs, j, none⟩ (.int .i64 v)) : St w B g m gs gd gl W' s (sn.set j v) dn lp Al kl := by
 obtain ⟨h1, h2⟩ := rowset hw h.bs
 have hg := h.ge
 have hl := h.lo
 exact ⟨IsP.set h.p h2 h.bs (by decide) hl.1 (by decide), h1, Ext.blk h2 h.bd (blk_ne h.bd h.bs (by decide)), Ext.blk h2 h.bl (blk_ne h.bl h.bs (by decide)), irow_set h.rl h2 h.bs (by decide), h.cl, h.lo, Nat.le_trans h.sz h2.size, h.ge, ⟨h2.os.trans h.be.os, h2.tape.trans h.be.tape, h2.output.trans h.be.output, Nat.le_trans h.be.size h2.size, fun i hi => (h2.block i (Nat.lt_of_lt_of_le hi h.be.size) (fun e => by have e : i = gs := e; omega)).trans (h.be.block i hi)⟩⟩
theorem St.setD (h : St w B g m gs gd gl W s sn dn lp Al kl) {j : Nat} {v : Bool} (hw : W' = W.setCell ⟨gd, j, none⟩ (.bool v)) : St w B g m gs gd gl W' s sn (dn.set j v) lp Al kl := by
 obtain ⟨h1, h2⟩ := put1 (cs' := ((dn.set j v).map Value.bool).toArray) hw h.bd (by rw [List.map_set, List.setIfInBounds_toArray])
 have hg := h.ge
 have hl := h.lo
 exact ⟨IsP.set h.p h2 h.bd (by decide) hl.2.1 (by decide), Ext.blk h2 h.bs (blk_ne h.bs h.bd (by decide)), h1, Ext.blk h2 h.bl (blk_ne h.bl h.bd (by decide)), irow_set h.rl h2 h.bd (by decide), h.cl, h.lo, Nat.le_trans h.sz h2.size, h.ge, ⟨h2.os.trans h.be.os, h2.tape.trans h.be.tape, h2.output.trans h.be.output, Nat.le_trans h.be.size h2.size, fun i hi => (h2.block i (Nat.lt_of_lt_of_le hi h.be.size) (fun e => by have e : i = gd := e; omega)).trans (h.be.block i hi)⟩⟩
theorem St.setL (h : St w B g m gs gd gl W s sn dn lp Al kl) {p : PQ} {A : Option Addr} {k : Nat} (hr : IRow W A p.q.f3.length p.q.f3) (hk : p.q.f3.length ≤ k) (h1 : W'.heap[gl]? = some (.cells (pcl p A k) 39 (0, 0))) (h2 : Ext (fun k => k = gl) W W') : St w B g m gs gd gl W' s sn dn p A k := by
 have hg := h.ge
 have hl := h.lo
 exact ⟨IsP.set h.p h2 h.bl (by decide) hl.2.2 (by decide), Ext.blk h2 h.bs (blk_ne h.bs h.bl (by decide)), Ext.blk h2 h.bd (blk_ne h.bd h.bl (by decide)), h1, irow_set hr h2 h.bl (by decide), hk, h.lo, Nat.le_trans h.sz h2.size, h.ge, ⟨h2.os.trans h.be.os, h2.tape.trans h.be.tape, h2.output.trans h.be.output, Nat.le_trans h.be.size h2.size, fun i hi => (h2.block i (Nat.lt_of_lt_of_le hi h.be.size) (fun e => by have e : i = gl := e; omega)).trans (h.be.block i hi)⟩⟩
def DP (W : World) (v : Value) : Option (Int × Bool) → Prop
 | none => v = .slice none 0 0
 | some r => ∃ gx c, v = .slice (some ⟨gx, 0, none⟩) 1 c ∧ W.cell? ⟨gx, 0, none⟩ = some (.int .i64 r.1) ∧ W.cell? ⟨gx, 3, none⟩ = some (.bool r.2)
theorem dp_step {v : Value} {d : Option Int} (h : DoneR W v d) : DP W v (d.map (fun t => (t, true))) := by
 cases d with
 | none => exact h
 | some t => obtain ⟨gx, c, e, hc⟩ := h; exact ⟨gx, c, e, hc 0 _ rfl, hc 3 _ rfl⟩
theorem dp_came {v : Value} {d : Option (Int × List Int × Int)} (h : CameP W v d) : DP W v (d.map (fun r => (r.1, false))) := by
 cases d with
 | none => exact h
 | some r => obtain ⟨gx, A, k, e, _, hb, _⟩ := h; exact ⟨gx, 1, e, (blk_cell hb 0).trans rfl, (blk_cell hb 3).trans rfl⟩
theorem ans_bytes {q : RQ} (hm : mayQ q = true) (v : Int) : MathP.Bytes (ansQ q v) ∧ (ansQ q v).length ≤ 4000 :=
 ⟨MthD.ansB_bytes (Mth.may_is (mayQ_b hm)) (Mth.ans_is (Mth.ansV_may (mayQ_b hm) v)), MthD.ansB_size (Mth.may_is (mayQ_b hm)) (Mth.ansV_len (mayQ_b hm) v)⟩
theorem bool_cell {g i : Nat} {xs : List Bool} {e : TypeId} (hb : W.heap[g]? = some (.cells (xs.map Value.bool).toArray e (0, 0))) (hi : i < xs.length) : W.cell? ⟨g, i, none⟩ = some (.bool (xs.getD i false)) := by
 rw [blk_cell hb i]
 simp only [List.getElem?_toArray, List.getElem?_map, List.getD_eq_getElem?_getD, List.getElem?_eq_getElem hi, Option.map_some, Option.getD_some]
end
end Go.Proofs.Ytlalpooiegganaa.MsgT
end

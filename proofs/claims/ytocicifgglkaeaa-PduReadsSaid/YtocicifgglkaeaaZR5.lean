/- The words, contracts and walks that this claim leans on, put together by a program of this session (part 5). -/
import Derived.Test.YtocicifgglkaeaaZR4
import Derived.MapKept
section
namespace Go.Proofs.Ytocicifgglkaeaa.PR
open Go.RowKit Go.Proofs.YtocicifgglkaeaaW.PrintWords Go.Proofs.YtocicifgglkaeaaW.PrintLast Go.Proofs.YtocicifgglkaeaaW.PrintMore
attribute [local go_sem] max2_int min2_int max_two min_two max_three min_three max_four min_four   
set_option linter.unusedVariables false
set_option linter.unusedSimpArgs false
open Go.Proofs.Ytocicifgglkaeaa.Ext Go.Proofs.Ytocicifgglkaeaa.PP Go.Proofs.Ytocicifgglkaeaa.ExtF Go.Proofs.Ytocicifgglkaeaa.PQ Go.Proofs.Ytocicifgglkaeaa.ExtM
mutual
def basculeref03_AnswerParse.j1 : Nat → List Int → Int → Int → Int → List Int → Int → Int → Int → List Int → Int → Option (List Int × Int × Bool)
 | 0, _, _, _, _, _, _, _, _, _, _ => none
 | k + 1, x1, x315000, x315001, x315002, x315003, x315004, x315005, x315006, x317000, x317001 => (basculeref03_AnswerMay.f k x315000 x315001 x315002 x315003 x315004 x315005 x315006 x317000 x317001).bind fun t335 => (if t335 = true then ((basculeref03_AnswerBytes.f k x315000 x315001 x315002 x315003 x315004 x315005 x315006 x317000 x317001).bind fun t336 => (if (strOfNums t336).toList = (strOfNums x1).toList then (some (x317000, x317001, true)) else (some (([] : List Int), 0, false)))) else (some (([] : List Int), 0, false)))
def basculeref03_AnswerParse.j0 : Nat → List Int → Bool → Int → Int → Int → List Int → Int → Int → Int → Int → Option (List Int × Int × Bool)
 | 0, _, _, _, _, _, _, _, _, _, _ => none
 | k + 1, x1, x35, x315000, x315001, x315002, x315003, x315004, x315005, x315006, x317001 => if x35 = true then (if x315002 > (wrap64 (8 * (wrap64 ((x1.length : Int) - 2)))) then (some (([] : List Int), x317001, false)) else (if 2 ≤ (x1.length : Int) then ((basculeref01_Unpack.f k (x1.drop 2) x315002).bind fun t320 => (basculeref03_AnswerParse.j1 k x1 x315000 x315001 x315002 x315003 x315004 x315005 x315006 t320 x317001)) else (none))) else (if x315000 = 3 then (if 2 ≤ (x1.length : Int) then ((basculeref03_read.f k (x1.drop 2)).bind fun t324 => (basculeref03_AnswerParse.j1 k x1 x315000 x315001 x315002 x315003 x315004 x315005 x315006 t324 x317001)) else (none)) else (if x315000 = 4 then (if 2 ≤ (x1.length : Int) then ((basculeref03_read.f k (x1.drop 2)).bind fun t328 => (basculeref03_AnswerParse.j1 k x1 x315000 x315001 x315002 x315003 x315004 x315005 x315006 t328 x317001)) else (none)) else (if x315000 = 23 then (if 2 ≤ (x1.length : Int) then ((basculeref03_read.f k (x1.drop 2)).bind fun t332 => (basculeref03_AnswerParse.j1 k x1 x315000 x315001 x315002 x315003 x315004 x315005 x315006 t332 x317001)) else (none)) else (basculeref03_AnswerParse.j1 k x1 x315000 x315001 x315002 x315003 x315004 x315005 x315006 ([] : List Int) x317001))))
end
def basculeref03_AnswerParse.f (k : Nat) (a0_0 : Int) (a0_1 : Int) (a0_2 : Int) (l0_3 : List Int) (a0_4 : Int) (a0_5 : Int) (a0_6 : Int) (l1 : List Int) : Option (List Int × Int × Bool) := if (l1.length : Int) < 2 then (some (([] : List Int), 0, false)) else (if 0 < (l1.length : Int) then (if (wrap64 (rd l1 0)) = (wrap64 (a0_0 + 128)) then (if 1 < (l1.length : Int) then (if (wrap64 (rd l1 1)) = 0 then (some (([] : List Int), 0, false)) else (basculeref03_AnswerParse.j1 k l1 a0_0 a0_1 a0_2 l0_3 a0_4 a0_5 a0_6 ([] : List Int) (wrap64 (rd l1 1)))) else (none)) else (if a0_0 = 1 then (basculeref03_AnswerParse.j0 k l1 true a0_0 a0_1 a0_2 l0_3 a0_4 a0_5 a0_6 0) else (basculeref03_AnswerParse.j0 k l1 (a0_0 == 2) a0_0 a0_1 a0_2 l0_3 a0_4 a0_5 a0_6 0))) else (none))
theorem basculeref03_AnswerParse.mono_l : ∀ k, (∀ y0 y1 y2 y3 y4 y5 y6 y7 y8 y9, LeO (basculeref03_AnswerParse.j1 k y0 y1 y2 y3 y4 y5 y6 y7 y8 y9) (basculeref03_AnswerParse.j1 (k + 1) y0 y1 y2 y3 y4 y5 y6 y7 y8 y9)) ∧ (∀ y0 y1 y2 y3 y4 y5 y6 y7 y8 y9, LeO (basculeref03_AnswerParse.j0 k y0 y1 y2 y3 y4 y5 y6 y7 y8 y9) (basculeref03_AnswerParse.j0 (k + 1) y0 y1 y2 y3 y4 y5 y6 y7 y8 y9))
 | 0 => ⟨fun _ _ _ _ _ _ _ _ _ _ r h => by simp [basculeref03_AnswerParse.j1] at h, fun _ _ _ _ _ _ _ _ _ _ r h => by simp [basculeref03_AnswerParse.j0] at h⟩
 | k + 1 => by
  obtain ⟨ih0, ih1⟩ := basculeref03_AnswerParse.mono_l k
  refine ⟨?_, ?_⟩
  ·intro y0 y1 y2 y3 y4 y5 y6 y7 y8 y9
   unfold basculeref03_AnswerParse.j1
   repeat' first
   | (with_reducible exact ih0 _ _ _ _ _ _ _ _ _ _)
   | (with_reducible exact ih1 _ _ _ _ _ _ _ _ _ _)
   | (with_reducible exact basculeref01_Unpack.mono _ _ _)
   | (with_reducible exact basculeref03_AnswerBytes.mono _ _ _ _ _ _ _ _ _ _)
   | (with_reducible exact basculeref03_AnswerMay.mono _ _ _ _ _ _ _ _ _ _)
   | (with_reducible exact basculeref03_read.mono _ _)
   | (with_reducible exact LeO.refl _)
   | (with_reducible exact LeO.none _)
   | (with_reducible refine LeO.ite ?_ ?_)
   | (with_reducible refine LeO.bind ?_ (fun _ => ?_))
   | exact ih0 _ _ _ _ _ _ _ _ _ _
   | exact ih1 _ _ _ _ _ _ _ _ _ _
   | exact basculeref01_Unpack.mono _ _ _
   | exact basculeref03_AnswerBytes.mono _ _ _ _ _ _ _ _ _ _
   | exact basculeref03_AnswerMay.mono _ _ _ _ _ _ _ _ _ _
   | exact basculeref03_read.mono _ _
   | exact LeO.none _
   | refine LeO.ite ?_ ?_
   | refine LeO.bind ?_ (fun _ => ?_)
  ·intro y0 y1 y2 y3 y4 y5 y6 y7 y8 y9
   unfold basculeref03_AnswerParse.j0
   repeat' first
   | (with_reducible exact ih0 _ _ _ _ _ _ _ _ _ _)
   | (with_reducible exact ih1 _ _ _ _ _ _ _ _ _ _)
   | (with_reducible exact basculeref01_Unpack.mono _ _ _)
   | (with_reducible exact basculeref03_AnswerBytes.mono _ _ _ _ _ _ _ _ _ _)
   | (with_reducible exact basculeref03_AnswerMay.mono _ _ _ _ _ _ _ _ _ _)
   | (with_reducible exact basculeref03_read.mono _ _)
   | (with_reducible exact LeO.refl _)
   | (with_reducible exact LeO.none _)
   | (with_reducible refine LeO.ite ?_ ?_)
   | (with_reducible refine LeO.bind ?_ (fun _ => ?_))
   | exact ih0 _ _ _ _ _ _ _ _ _ _
   | exact ih1 _ _ _ _ _ _ _ _ _ _
   | exact basculeref01_Unpack.mono _ _ _
   | exact basculeref03_AnswerBytes.mono _ _ _ _ _ _ _ _ _ _
   | exact basculeref03_AnswerMay.mono _ _ _ _ _ _ _ _ _ _
   | exact basculeref03_read.mono _ _
   | exact LeO.none _
   | refine LeO.ite ?_ ?_
   | refine LeO.bind ?_ (fun _ => ?_)
theorem basculeref03_AnswerParse.mono : ∀ a0 a1 a2 a3 a4 a5 a6 a7 k, LeO (basculeref03_AnswerParse.f k a0 a1 a2 a3 a4 a5 a6 a7) (basculeref03_AnswerParse.f (k + 1) a0 a1 a2 a3 a4 a5 a6 a7) := by
 intro a0 a1 a2 a3 a4 a5 a6 a7 k
 obtain ⟨ih0, ih1⟩ := basculeref03_AnswerParse.mono_l k
 unfold basculeref03_AnswerParse.f
 repeat' first
  | (with_reducible exact ih0 _ _ _ _ _ _ _ _ _ _)
  | (with_reducible exact ih1 _ _ _ _ _ _ _ _ _ _)
  | (with_reducible exact basculeref01_Unpack.mono _ _ _)
  | (with_reducible exact basculeref03_AnswerBytes.mono _ _ _ _ _ _ _ _ _ _)
  | (with_reducible exact basculeref03_AnswerMay.mono _ _ _ _ _ _ _ _ _ _)
  | (with_reducible exact basculeref03_read.mono _ _)
  | (with_reducible exact LeO.refl _)
  | (with_reducible exact LeO.none _)
  | (with_reducible refine LeO.ite ?_ ?_)
  | (with_reducible refine LeO.bind ?_ (fun _ => ?_))
  | exact ih0 _ _ _ _ _ _ _ _ _ _
  | exact ih1 _ _ _ _ _ _ _ _ _ _
  | exact basculeref01_Unpack.mono _ _ _
  | exact basculeref03_AnswerBytes.mono _ _ _ _ _ _ _ _ _ _
  | exact basculeref03_AnswerMay.mono _ _ _ _ _ _ _ _ _ _
  | exact basculeref03_read.mono _ _
  | exact LeO.none _
  | refine LeO.ite ?_ ?_
  | refine LeO.bind ?_ (fun _ => ?_)
def basculeref03_AnswerParse.T4 : Bool × List (List Nat × List Nat) := (true, [([], []), ([0], [0]), ([1], [1]), ([2], [2]), ([], []), ([4], [4]), ([5], [5]), ([3, 6], [3, 6])])
def basculeref03_AnswerParse.B4 : List Nat := [0, 1, 3, 7, 0, 16, 48, 127]
theorem basculeref03_AnswerParse.tab4 : rtab .any (opsOf Try.f40 4) = basculeref03_AnswerParse.T4 := by kernel_rfl
theorem basculeref03_AnswerParse.bits4 : waitsOk basculeref03_AnswerParse.T4.2 basculeref03_AnswerParse.B4 = true := by kernel_rfl
def basculeref03_AnswerParse.T14 : Bool × List (List Nat × List Nat) := (true, [([], []), ([], []), ([0, 1], [0, 1]), ([2], [2]), ([3, 2], [3]), ([4], [4]), ([4], [4]), ([5, 6, 4, 4], [4, 5, 6]), ([7, 4], [4, 7]), ([4], [4]), ([9, 4], [4, 9]), ([8, 10, 4], [4, 8, 10]), ([4, 11], [4, 11])])
def basculeref03_AnswerParse.B14 : List Nat := [0, 0, 3, 7, 15, 31, 31, 127, 255, 31, 543, 2047, 4095]
theorem basculeref03_AnswerParse.tab14 : rtab .any (opsOf Try.f40 14) = basculeref03_AnswerParse.T14 := by kernel_rfl
theorem basculeref03_AnswerParse.bits14 : waitsOk basculeref03_AnswerParse.T14.2 basculeref03_AnswerParse.B14 = true := by kernel_rfl
set_option maxHeartbeats 8000000 in
set_option maxRecDepth 100000 in
theorem basculeref03_AnswerParse.calls (k : Nat) (a0_0 : Int) (a0_1 : Int) (a0_2 : Int) (A0_3 : Option Addr) (c0_3 : Nat) (l0_3 : List Int) (a0_4 : Int) (a0_5 : Int) (a0_6 : Int) (A1 : Option Addr) (c1 : Nat) (l1 : List Int) (r1 : List Int) (r2 : Int) (r3 : Bool) (w : World) (hr0_3 : Kd.C (Kd.int .i64) w A0_3 l0_3.length l0_3) (hc0_3 : l0_3.length ≤ c0_3) (hr1 : Kd.C (Kd.int .u8) w A1 l1.length l1) (hc1 : l1.length ≤ c1) (h : basculeref03_AnswerParse.f k a0_0 a0_1 a0_2 l0_3 a0_4 a0_5 a0_6 l1 = some (r1, r2, r3)) :
 Calls Try.prog 40 #[.agg #[.int .i64 a0_0, .int .i64 a0_1, .int .i64 a0_2, .slice A0_3 l0_3.length c0_3, .int .i64 a0_4, .int .i64 a0_5, .int .i64 a0_6], .slice A1 l1.length c1] w fun e w' => ∃ v0_ : Value, e = .returned (.tuple #[.agg #[v0_, .int .i64 r2], .bool r3]) ∧ Kd.R (Kd.int .i64) 3 w' w.heap.size (fun _ => True) v0_ r1 ∧ Below w.heap.size w w' := by
 have hu24 := Try.underlying24
 have hu30 := Try.underlying30
 have HR0_3 := Aside0.mk hr0_3
 have HC0_3 := Aside0.mk hc0_3
 clear hr0_3 hc0_3
 have HR1 := Aside0.mk hr1
 have HC1 := Aside0.mk hc1
 clear hr1 hc1
 have HB := Aside0.mk (Below.refl w.heap.size w)
 have H : (if (l1.length : Int) < 2 then (some (([] : List Int), 0, false)) else (if 0 < (l1.length : Int) then (if (wrap64 (rd l1 0)) = (wrap64 (a0_0 + 128)) then (if 1 < (l1.length : Int) then (if (wrap64 (rd l1 1)) = 0 then (some (([] : List Int), 0, false)) else (basculeref03_AnswerParse.j1 k l1 a0_0 a0_1 a0_2 l0_3 a0_4 a0_5 a0_6 ([] : List Int) (wrap64 (rd l1 1)))) else (none)) else (if a0_0 = 1 then (basculeref03_AnswerParse.j0 k l1 true a0_0 a0_1 a0_2 l0_3 a0_4 a0_5 a0_6 0) else (basculeref03_AnswerParse.j0 k l1 (a0_0 == 2) a0_0 a0_1 a0_2 l0_3 a0_4 a0_5 a0_6 0))) else (none))) = some (r1, r2, r3) := h
 clear h
 by_cases c3 : (l1.length : Int) < 2
 ·rw [if_pos c3] at H
  have c3b0 : decide ((l1.length : Int) < 2) = true := decide_eq_true c3
  have c3b1 : decide (l1.length < 2) = true := decide_eq_true (by omega)
  clear c3
  simp only [Option.some.injEq, Prod.mk.injEq] at H
  obtain ⟨rfl, rfl, rfl⟩ := H
  go_enter Try.func40, Try.ntmps40
  go_wp2_with (first | ((with_reducible refine gate_dst (N := 2) rfl ?_); refine bx_ (N := 2) (cs := #[.int .i64 a0_0, .int .i64 a0_1, .int .i64 a0_2, .slice A0_3 l0_3.length c0_3, .int .i64 a0_4, .int .i64 a0_5, .int .i64 a0_6]) (t := 24) ?_; intro gb314 hg w4 hbox hb; have n0_ := Aside0.mk (below_step (bl0_ HB) hb); have n1_ := Aside0.mk (hbox); have n2_ := Aside0.mk ((by rw [hg]; exact (below_size (bl0_ HB)) : w.heap.size ≤ gb314)); have n3_ := Aside0.mk ((by rw [hg]; exact (below_size (bl0_ HB)) : w.heap.size ≤ gb314)); clear HB; have HB := n0_; have BK314 := n1_; have GW314 := n2_; have GE314 := n3_; clear n0_ n1_ n2_ n3_; clear hb hbox hg) | ((with_reducible refine gate_dst (N := 4) rfl ?_); refine bx_ (N := 4) (cs := #[.slice none 0 0, .int .i64 0]) (t := 30) ?_; intro gb315 hg w5 hbox hb; have n0_ := Aside0.mk (blk_below (g := gb314) (bk_ BK314) hb); have n1_ := Aside0.mk (below_step (bl1_ HB GE314) hb); have n2_ := Aside0.mk (hbox); have n3_ := Aside0.mk ((by rw [hg]; exact (below_size (bl1_ HB GE314)) : w.heap.size ≤ gb315)); have n4_ := Aside0.mk ((by rw [hg]; exact (below_size (bl1_ HB GE314)) : w.heap.size ≤ gb315)); have n5_ := Aside0.mk ((by rw [hg]; exact Nat.ne_of_lt (blk_lt (g := gb314) (bk_ BK314)) : gb314 ≠ gb315)); have n6_ := Aside0.mk ((by rw [hg]; exact Nat.ne_of_gt (blk_lt (g := gb314) (bk_ BK314)) : gb315 ≠ gb314)); clear BK314; clear HB; have BK314 := n0_; have HB := n1_; have BK315 := n2_; have GW315 := n3_; have GE315 := n4_; have NB314_315 := n5_; have NB315_314 := n6_; clear n0_ n1_ n2_ n3_ n4_ n5_ n6_; clear hb hbox hg) | ((with_reducible refine gate_dst (N := 6) rfl ?_); refine bx_ (N := 6) (cs := #[.slice none 0 0, .int .i64 0]) (t := 30) ?_; intro gb316 hg w6 hbox hb; have n0_ := Aside0.mk (blk_below (g := gb314) (bk_ BK314) hb); have n1_ := Aside0.mk (blk_below (g := gb315) (bk_ BK315) hb); have n2_ := Aside0.mk (below_step (bl2_ HB GE314 GE315) hb); have n3_ := Aside0.mk (hbox); have n4_ := Aside0.mk ((by rw [hg]; exact (below_size (bl2_ HB GE314 GE315)) : w.heap.size ≤ gb316)); have n5_ := Aside0.mk ((by rw [hg]; exact (below_size (bl2_ HB GE314 GE315)) : w.heap.size ≤ gb316)); have n6_ := Aside0.mk ((by rw [hg]; exact Nat.ne_of_lt (blk_lt (g := gb314) (bk_ BK314)) : gb314 ≠ gb316)); have n7_ := Aside0.mk ((by rw [hg]; exact Nat.ne_of_gt (blk_lt (g := gb314) (bk_ BK314)) : gb316 ≠ gb314)); have n8_ := Aside0.mk ((by rw [hg]; exact Nat.ne_of_lt (blk_lt (g := gb315) (bk_ BK315)) : gb315 ≠ gb316)); have n9_ := Aside0.mk ((by rw [hg]; exact Nat.ne_of_gt (blk_lt (g := gb315) (bk_ BK315)) : gb316 ≠ gb315)); clear BK314; clear BK315; clear HB; have BK314 := n0_; have BK315 := n1_; have HB := n2_; have BK316 := n3_; have GW316 := n4_; have GE316 := n5_; have NB314_316 := n6_; have NB316_314 := n7_; have NB315_316 := n8_; have NB316_315 := n9_; clear n0_ n1_ n2_ n3_ n4_ n5_ n6_ n7_ n8_ n9_; clear hb hbox hg; have hnb7 := NB316_314.out; have hnc7 := NB314_316.out; have hnb8 := NB316_315.out; have hnc8 := NB315_316.out; refine cz2_ BK316.out ?_; intro hcz9_0 hcz9_1 hfz9_0 hfz9_1; have hnb10 := NB315_314.out; have hnc10 := NB314_315.out; refine cz2_ BK315.out ?_; intro hcz11_0 hcz11_1 hfz11_0 hfz11_1))
  refine bodyPost_ret (results_ct rfl _ _ gb315 30 #[.slice none 0 0, .int .i64 0] (0, 0) _ rfl (by (with_reducible repeat (first | refine blk_drewN ?_ _ | refine blk_drew ?_ | refine blk_alloc ?_ _)); refine blk_put (cs := #[.slice none 0 0, .int .i64 0]) ?_ 1 _ rfl; (with_reducible repeat (first | refine blk_drewN ?_ _ | refine blk_drew ?_ | refine blk_alloc ?_ _)); refine blk_put (cs := #[.slice none 0 0, .int .i64 0]) ?_ 0 _ rfl; (with_reducible repeat (first | refine blk_drewN ?_ _ | refine blk_drew ?_ | refine blk_alloc ?_ _)); exact BK315.out) Try.underlying30 rfl (by kernel_rfl)) rfl ?_
  exact ⟨_, er_, by first | exact Kd.R_nil _ _ _ _ _ | exact Kd.N_nil _ _ _ _ _ | exact Kd.V_nil _ _ _ _ _ | exact Kd.Q_nil _ _ _ _ _ | exact Kd.S_nil _ _ _ _ _, bl3_ HB GE314 GE315 GE316⟩
 ·rw [if_neg c3] at H
  have c3b0 : decide ((l1.length : Int) < 2) = false := decide_eq_false c3
  have c3b1 : decide (l1.length < 2) = false := decide_eq_false (by omega)
  clear c3
  by_cases c12 : 0 < (l1.length : Int)
  ·rw [if_pos c12] at H
   have c12b0 : decide (0 < (l1.length : Int)) = true := decide_eq_true c12
   have c12b1 : decide (0 < l1.length) = true := decide_eq_true (by omega)
   clear c12
   have HC13 := Aside0.mk H
   clear H
   go_enter Try.func40, Try.ntmps40
   try go_wp2_with (first | ((with_reducible refine gate_dst (N := 2) rfl ?_); refine bx_ (N := 2) (cs := #[.int .i64 a0_0, .int .i64 a0_1, .int .i64 a0_2, .slice A0_3 l0_3.length c0_3, .int .i64 a0_4, .int .i64 a0_5, .int .i64 a0_6]) (t := 24) ?_; intro gb314 hg w14 hbox hb; have n0_ := Aside0.mk (below_step (bl0_ HB) hb); have n1_ := Aside0.mk (hbox); have n2_ := Aside0.mk ((by rw [hg]; exact (below_size (bl0_ HB)) : w.heap.size ≤ gb314)); have n3_ := Aside0.mk ((by rw [hg]; exact (below_size (bl0_ HB)) : w.heap.size ≤ gb314)); clear HB; have HB := n0_; have BK314 := n1_; have GW314 := n2_; have GE314 := n3_; clear n0_ n1_ n2_ n3_; clear hb hbox hg) | ((with_reducible refine gate_dst (N := 4) rfl ?_); refine bx_ (N := 4) (cs := #[.slice none 0 0, .int .i64 0]) (t := 30) ?_; intro gb315 hg w15 hbox hb; have n0_ := Aside0.mk (blk_below (g := gb314) (bk_ BK314) hb); have n1_ := Aside0.mk (below_step (bl1_ HB GE314) hb); have n2_ := Aside0.mk (hbox); have n3_ := Aside0.mk ((by rw [hg]; exact (below_size (bl1_ HB GE314)) : w.heap.size ≤ gb315)); have n4_ := Aside0.mk ((by rw [hg]; exact (below_size (bl1_ HB GE314)) : w.heap.size ≤ gb315)); have n5_ := Aside0.mk ((by rw [hg]; exact Nat.ne_of_lt (blk_lt (g := gb314) (bk_ BK314)) : gb314 ≠ gb315)); have n6_ := Aside0.mk ((by rw [hg]; exact Nat.ne_of_gt (blk_lt (g := gb314) (bk_ BK314)) : gb315 ≠ gb314)); clear BK314; clear HB; have BK314 := n0_; have HB := n1_; have BK315 := n2_; have GW315 := n3_; have GE315 := n4_; have NB314_315 := n5_; have NB315_314 := n6_; clear n0_ n1_ n2_ n3_ n4_ n5_ n6_; clear hb hbox hg) | ((with_reducible refine gate_dst (N := 6) rfl ?_); refine bx_ (N := 6) (cs := #[.slice none 0 0, .int .i64 0]) (t := 30) ?_; intro gb316 hg w16 hbox hb; have n0_ := Aside0.mk (blk_below (g := gb314) (bk_ BK314) hb); have n1_ := Aside0.mk (blk_below (g := gb315) (bk_ BK315) hb); have n2_ := Aside0.mk (below_step (bl2_ HB GE314 GE315) hb); have n3_ := Aside0.mk (hbox); have n4_ := Aside0.mk ((by rw [hg]; exact (below_size (bl2_ HB GE314 GE315)) : w.heap.size ≤ gb316)); have n5_ := Aside0.mk ((by rw [hg]; exact (below_size (bl2_ HB GE314 GE315)) : w.heap.size ≤ gb316)); have n6_ := Aside0.mk ((by rw [hg]; exact Nat.ne_of_lt (blk_lt (g := gb314) (bk_ BK314)) : gb314 ≠ gb316)); have n7_ := Aside0.mk ((by rw [hg]; exact Nat.ne_of_gt (blk_lt (g := gb314) (bk_ BK314)) : gb316 ≠ gb314)); have n8_ := Aside0.mk ((by rw [hg]; exact Nat.ne_of_lt (blk_lt (g := gb315) (bk_ BK315)) : gb315 ≠ gb316)); have n9_ := Aside0.mk ((by rw [hg]; exact Nat.ne_of_gt (blk_lt (g := gb315) (bk_ BK315)) : gb316 ≠ gb315)); clear BK314; clear BK315; clear HB; have BK314 := n0_; have BK315 := n1_; have HB := n2_; have BK316 := n3_; have GW316 := n4_; have GE316 := n5_; have NB314_316 := n6_; have NB316_314 := n7_; have NB315_316 := n8_; have NB316_315 := n9_; clear n0_ n1_ n2_ n3_ n4_ n5_ n6_ n7_ n8_ n9_; clear hb hbox hg))
   have n0_ := Aside0.mk (blk_drew BK314.out)
   have n1_ := Aside0.mk (blk_drew BK315.out)
   have n2_ := Aside0.mk (blk_drew BK316.out)
   have n3_ := Aside0.mk (below_drew1 HB.out)
   clear BK314
   clear BK315
   clear BK316
   clear HB
   have BK314 := n0_
   have BK315 := n1_
   have BK316 := n2_
   have HB := n3_
   clear n0_ n1_ n2_ n3_
   have p317 : 0 ≤ (0 : Int) := (by omega)
   have q317 : 0 < (l1.length : Int) := of_decide_eq_true (by first | (with_reducible assumption) | assumption)
   obtain ⟨ad317, e317, hx317_0⟩ := Kd.at_int HR1.out 0 p317 q317
   have hw317_0 := hx317_0
   (try rw [show ((0 : Int)).toNat = 0 from rfl] at hw317_0)
   (try rw [show 0 * 1 = 0 from rfl] at hw317_0)
   (try rw [Addr.add_zero'] at hw317_0)
   cases e317
   have qi317 : (0 < l1.length) = True := eq_true (by omega)
   (try rw [show ((0 : Int)).toNat = 0 from rfl] at hx317_0)
   (try rw [Addr.add_zero'] at hx317_0)
   replace hx317_0 := (HB.out.cell (World.block_lt_of_cell? w _ hx317_0)).trans hx317_0
   replace p317 := eq_true p317
   replace q317 := eq_true q317
   refine start_ (n := 8) (S := fun w' => w'.cell? ⟨gb314, 0, none⟩ = some (.int .i64 a0_0) ∧ w'.cell? ⟨gb314, 1, none⟩ = some (.int .i64 a0_1) ∧ w'.cell? ⟨gb314, 2, none⟩ = some (.int .i64 a0_2) ∧ w'.cell? ⟨gb314, 3, none⟩ = some (.slice A0_3 l0_3.length c0_3) ∧ w'.cell? ⟨gb314, 4, none⟩ = some (.int .i64 a0_4) ∧ w'.cell? ⟨gb314, 5, none⟩ = some (.int .i64 a0_5) ∧ w'.cell? ⟨gb314, 6, none⟩ = some (.int .i64 a0_6) ∧ w'.cell? ad317 = some (.int .u8 (rd l1 0))) (ds := []) #[false, false, false, false, false, false, false, false] (by kernel_rfl) rfl rfl ⟨(blk_cell BK314.out 0).trans rfl, (blk_cell BK314.out 1).trans rfl, (blk_cell BK314.out 2).trans rfl, (blk_cell BK314.out 3).trans rfl, (blk_cell BK314.out 4).trans rfl, (blk_cell BK314.out 5).trans rfl, (blk_cell BK314.out 6).trans rfl, ((HB.out.cell (World.block_lt_of_cell? w _ hw317_0)).trans hw317_0)⟩ (fun hHeld => ?_); refine with_tabW basculeref03_AnswerParse.tab4 basculeref03_AnswerParse.bits4 (fun HT_ HW_ => ?_)
   generalize w16.drew = w17 at BK314 BK315 BK316 HB hx317_0 hHeld ⊢
   refine pure_ (i := 0) (N := some 11) (v := ?_) (a' := ?_) #[true, false, false, false, false, false, false, false] rfl rfl (any_of HT_.out (by kernel_rfl)) (fun _ _ _ h => h) (Or.inl ⟨by rfl, ?_⟩) ?_ ?_
   rotate_left
   ·intro w'
    go_simp
    with_reducible rfl
   rotate_left
   ·simp only [Act.put, List.setIfInBounds_toArray, List.set_cons_zero, List.set_cons_succ, i64_w, i32_w]
    rfl
   refine pure_ (i := 1) (N := some 12) (v := ?_) (a' := ?_) #[true, true, false, false, false, false, false, false] rfl rfl (any_of HT_.out (by kernel_rfl)) (fun _ _ _ h => h) (Or.inl ⟨by rfl, ?_⟩) ?_ ?_
   rotate_left
   ·intro w'
    go_simp
    with_reducible rfl
   rotate_left
   ·simp only [Act.put, List.setIfInBounds_toArray, List.set_cons_zero, List.set_cons_succ, i64_w, i32_w]
    rfl
   refine pure_ (i := 4) (N := some 15) (v := ?_) (a' := ?_) #[true, true, false, false, true, false, false, false] rfl rfl (any_of HT_.out (by kernel_rfl)) (fun _ _ _ h => h) (Or.inl ⟨by rfl, ?_⟩) ?_ ?_
   rotate_left
   ·intro w'
    go_simp
    with_reducible rfl
   rotate_left
   ·simp only [Act.put, List.setIfInBounds_toArray, List.set_cons_zero, List.set_cons_succ, i64_w, i32_w]
    rfl
   refine take_ (i := 2) (N := some 13) (v := ?_) (a' := ?_) #[true, true, true, false, true, false, false, false] rfl rfl (take_ofW HT_.out HW_.out (by kernel_rfl)) (fun _ _ _ h => h) (Or.inl ⟨by rfl, ?_⟩) hHeld ?_ ?_
   rotate_left
   ·rintro w' ⟨s0, s1, s2, s3, s4, s5, s6, s7⟩
    go_simp
    with_reducible rfl
   rotate_left
   ·simp only [Act.put, List.setIfInBounds_toArray, List.set_cons_zero, List.set_cons_succ, i64_w, i32_w]
    rfl
   refine pure_ (i := 3) (N := some 14) (v := ?_) (a' := ?_) #[true, true, true, true, true, false, false, false] rfl rfl (any_of HT_.out (by kernel_rfl)) (fun _ _ _ h => h) (Or.inl ⟨by rfl, ?_⟩) ?_ ?_
   rotate_left
   ·intro w'
    go_simp
    with_reducible rfl
   rotate_left
   ·simp only [Act.put, List.setIfInBounds_toArray, List.set_cons_zero, List.set_cons_succ, i64_w, i32_w]
    rfl
   refine take_ (i := 5) (N := some 16) (v := ?_) (a' := ?_) #[true, true, true, true, true, true, false, false] rfl rfl (take_ofW HT_.out HW_.out (by kernel_rfl)) (fun _ _ _ h => h) (Or.inl ⟨by rfl, ?_⟩) hHeld ?_ ?_
   rotate_left
   ·rintro w' ⟨s0, s1, s2, s3, s4, s5, s6, s7⟩
    go_simp
    with_reducible rfl
   rotate_left
   ·simp only [Act.put, List.setIfInBounds_toArray, List.set_cons_zero, List.set_cons_succ, i64_w, i32_w]
    rfl
   refine pure_ (i := 6) (N := some 17) (v := ?_) (a' := ?_) #[true, true, true, true, true, true, true, false] rfl rfl (any_of HT_.out (by kernel_rfl)) (fun _ _ _ h => h) (Or.inl ⟨by rfl, ?_⟩) ?_ ?_
   rotate_left
   ·intro w'
    go_simp
    with_reducible rfl
   rotate_left
   ·simp only [Act.put, List.setIfInBounds_toArray, List.set_cons_zero, List.set_cons_succ, i64_w, i32_w]
    rfl
   refine pure_ (i := 7) (N := some 18) (v := ?_) (a' := ?_) #[true, true, true, true, true, true, true, true] rfl rfl (any_of HT_.out (by kernel_rfl)) (fun _ _ _ h => h) (Or.inl ⟨by rfl, ?_⟩) ?_ ?_
   rotate_left
   ·intro w'
    go_simp
    with_reducible rfl
   rotate_left
   ·simp only [Act.put, List.setIfInBounds_toArray, List.set_cons_zero, List.set_cons_succ, i64_w, i32_w]
    rfl
   refine done_ (done_of HT_.out (by kernel_rfl)) ?_
   go_upto_if 18 with (fail)
   go_cut [] (fun wc => ∃ (kq : Nat) (x316001_12 : Int) (x317000_12 : List Int) (x317001_12 : Int) (u317000 : Value), Aside0 (basculeref03_AnswerParse.j1 kq l1 a0_0 a0_1 a0_2 l0_3 a0_4 a0_5 a0_6 x317000_12 x317001_12 = some (r1, r2, r3)) ∧ Aside0 (kq ≤ k) ∧ Aside0 (Kd.R (Kd.int .i64) 3 wc w.heap.size (fun _ => True) u317000 x317000_12) ∧ Aside0 (wc.heap[gb314]? = some (.cells #[.int .i64 a0_0, .int .i64 a0_1, .int .i64 a0_2, (.slice A0_3 l0_3.length c0_3), .int .i64 a0_4, .int .i64 a0_5, .int .i64 a0_6] 24 (0, 0))) ∧ Aside0 (wc.heap[gb315]? = some (.cells #[(.slice none 0 0), .int .i64 x316001_12] 30 (0, 0))) ∧ Aside0 (wc.heap[gb316]? = some (.cells #[u317000, .int .i64 x317001_12] 30 (0, 0))) ∧ Aside0 (Below w.heap.size w wc))
   case first =>
    have H := HC13.out
    clear HC13
    by_cases c18 : (wrap64 (rd l1 0)) = (wrap64 (a0_0 + 128))
    ·rw [if_pos c18] at H
     have c18b0 : ((wrap64 (rd l1 0)) == (wrap64 (a0_0 + 128))) = true := beq_iff_eq.mpr c18
     have c18b1 : ((wrap64 (rd l1 0)) != (wrap64 (a0_0 + 128))) = false := bne_eq_false_iff_eq.mpr c18
     clear c18
     (first | rw [c18b0] | (simp only [i64_w, i32_w]; rw [c18b0]) | skip)
     by_cases c19 : 1 < (l1.length : Int)
     ·rw [if_pos c19] at H
      have c19b0 : decide (1 < (l1.length : Int)) = true := decide_eq_true c19
      have c19b1 : decide (1 < l1.length) = true := decide_eq_true (by omega)
      clear c19
      by_cases c20 : (wrap64 (rd l1 1)) = 0
      ·rw [if_pos c20] at H
       have c20b0 : ((wrap64 (rd l1 1)) == 0) = true := beq_iff_eq.mpr c20
       have c20b1 : ((wrap64 (rd l1 1)) != 0) = false := bne_eq_false_iff_eq.mpr c20
       clear c20
       simp only [Option.some.injEq, Prod.mk.injEq] at H
       obtain ⟨rfl, rfl, rfl⟩ := H
       have p318 : 0 ≤ (1 : Int) := (by omega)
       have q318 : 1 < (l1.length : Int) := of_decide_eq_true (by first | (with_reducible assumption) | assumption)
       obtain ⟨ad318, e318, hx318_0⟩ := Kd.at_int HR1.out 1 p318 q318
       obtain rfl : ad317 = ad318 := (by injection e318)
       (try simp only [show (1 : Int).toNat = 1 from rfl, Nat.reduceMul, Nat.reduceEqDiff, Go.Addr.add, ↓reduceIte] at hx318_0)
       have qi318 : (1 < l1.length) = True := eq_true (by omega)
       (try rw [show ((1 : Int)).toNat = 1 from rfl] at hx318_0)
       replace hx318_0 := (HB.out.cell (World.block_lt_of_cell? w _ hx318_0)).trans hx318_0
       replace p318 := eq_true p318
       replace q318 := eq_true q318
       have hnb21 := NB316_314.out
       have hnc21 := NB314_316.out
       have hnb22 := NB316_315.out
       have hnc22 := NB315_316.out
       refine cz2_ BK316.out ?_; intro hcz23_0 hcz23_1 hfz23_0 hfz23_1
       have hnb24 := NB315_314.out
       have hnc24 := NB314_315.out
       refine cz2_ BK315.out ?_; intro hcz25_0 hcz25_1 hfz25_0 hfz25_1
       go_wp2
       refine bodyPost_ret (results_ct rfl _ _ gb315 30 #[.slice none 0 0, .int .i64 0] (0, 0) _ rfl (by (with_reducible repeat (first | refine blk_drewN ?_ _ | refine blk_drew ?_ | refine blk_alloc ?_ _)); refine blk_put (cs := #[.slice none 0 0, .int .i64 0]) ?_ 1 _ rfl; (with_reducible repeat (first | refine blk_drewN ?_ _ | refine blk_drew ?_ | refine blk_alloc ?_ _)); refine blk_put (cs := #[.slice none 0 0, .int .i64 0]) ?_ 0 _ rfl; (with_reducible repeat (first | refine blk_drewN ?_ _ | refine blk_drew ?_ | refine blk_alloc ?_ _)); refine blk_far ?_ NB315_316.out _; (with_reducible repeat (first | refine blk_drewN ?_ _ | refine blk_drew ?_ | refine blk_alloc ?_ _)); exact BK315.out) Try.underlying30 rfl (by kernel_rfl)) rfl ?_
       exact ⟨_, er_, by first | exact Kd.R_nil _ _ _ _ _ | exact Kd.N_nil _ _ _ _ _ | exact Kd.V_nil _ _ _ _ _ | exact Kd.Q_nil _ _ _ _ _ | exact Kd.S_nil _ _ _ _ _, bl3_ HB GE314 GE315 GE316⟩
      ·rw [if_neg c20] at H
       have c20b0 : ((wrap64 (rd l1 1)) == 0) = false := beq_eq_false_iff_ne.mpr c20
       have c20b1 : ((wrap64 (rd l1 1)) != 0) = true := bne_iff_ne.mpr c20
       have H' := Aside0.mk H
       clear H
       have p318 : 0 ≤ (1 : Int) := (by omega)
       have q318 : 1 < (l1.length : Int) := of_decide_eq_true (by first | (with_reducible assumption) | assumption)
       obtain ⟨ad318, e318, hx318_0⟩ := Kd.at_int HR1.out 1 p318 q318
       obtain rfl : ad317 = ad318 := (by injection e318)
       (try simp only [show (1 : Int).toNat = 1 from rfl, Nat.reduceMul, Nat.reduceEqDiff, Go.Addr.add, ↓reduceIte] at hx318_0)
       have qi318 : (1 < l1.length) = True := eq_true (by omega)
       (try rw [show ((1 : Int)).toNat = 1 from rfl] at hx318_0)
       replace hx318_0 := (HB.out.cell (World.block_lt_of_cell? w _ hx318_0)).trans hx318_0
       replace p318 := eq_true p318
       replace q318 := eq_true q318
       have hnb26 := NB316_314.out
       have hnc26 := NB314_316.out
       have hnb27 := NB316_315.out
       have hnc27 := NB315_316.out
       refine cz2_ BK316.out ?_; intro hcz28_0 hcz28_1 hfz28_0 hfz28_1
       go_wp2
       go_meet
       case rel => exact ⟨_, (0), (([] : List Int)), (wrap64 (rd l1 1)), (.slice none 0 0), H', ⟨by first | omega | exact Nat.le_refl _⟩, ⟨by first | exact Kd.R_nil _ _ _ _ _ | exact Kd.N_nil _ _ _ _ _ | exact Kd.V_nil _ _ _ _ _ | exact Kd.Q_nil _ _ _ _ _ | exact Kd.S_nil _ _ _ _ _⟩, ⟨by (with_reducible repeat (first | refine blk_drewN ?_ _ | refine blk_drew ?_ | refine blk_alloc ?_ _)); refine blk_far ?_ NB314_316.out _; (with_reducible repeat (first | refine blk_drewN ?_ _ | refine blk_drew ?_ | refine blk_alloc ?_ _)); exact BK314.out⟩, ⟨by (with_reducible repeat (first | refine blk_drewN ?_ _ | refine blk_drew ?_ | refine blk_alloc ?_ _)); refine blk_far ?_ NB315_316.out _; (with_reducible repeat (first | refine blk_drewN ?_ _ | refine blk_drew ?_ | refine blk_alloc ?_ _)); exact BK315.out⟩, ⟨by (with_reducible repeat (first | refine blk_drewN ?_ _ | refine blk_drew ?_ | refine blk_alloc ?_ _)); refine blk_put (cs := #[.slice none 0 0, .int .i64 0]) ?_ 1 _ rfl; (with_reducible repeat (first | refine blk_drewN ?_ _ | refine blk_drew ?_ | refine blk_alloc ?_ _)); exact BK316.out⟩, ⟨bl3_ HB GE314 GE315 GE316⟩⟩
     ·rw [if_neg c19] at H
      exact absurd H (by simp)
    ·rw [if_neg c18] at H
     have c18b0 : ((wrap64 (rd l1 0)) == (wrap64 (a0_0 + 128))) = false := beq_eq_false_iff_ne.mpr c18
     have c18b1 : ((wrap64 (rd l1 0)) != (wrap64 (a0_0 + 128))) = true := bne_iff_ne.mpr c18
     (first | rw [c18b0] | (simp only [i64_w, i32_w]; rw [c18b0]) | skip)
     have HC29 := Aside0.mk H
     clear H
     go_upto_region 8 with (fail)
     go_cut [35] (fun v35 wc => ∃ (kq : Nat) (x35_28 : Bool), v35 = .bool x35_28 ∧ Aside0 (basculeref03_AnswerParse.j0 kq l1 x35_28 a0_0 a0_1 a0_2 l0_3 a0_4 a0_5 a0_6 0 = some (r1, r2, r3)) ∧ Aside0 (kq ≤ k) ∧ Aside0 (wc.heap[gb314]? = some (.cells #[.int .i64 a0_0, .int .i64 a0_1, .int .i64 a0_2, (.slice A0_3 l0_3.length c0_3), .int .i64 a0_4, .int .i64 a0_5, .int .i64 a0_6] 24 (0, 0))) ∧ Aside0 (wc.heap[gb315]? = some (.cells #[(.slice none 0 0), .int .i64 0] 30 (0, 0))) ∧ Aside0 (wc.heap[gb316]? = some (.cells #[(.slice none 0 0), .int .i64 0] 30 (0, 0))) ∧ Aside0 (Below w.heap.size w wc))
     case first =>
      have H := HC29.out
      clear HC29
      by_cases c30 : a0_0 = 1
      ·rw [if_pos c30] at H
       have c30b0 : (a0_0 == 1) = true := beq_iff_eq.mpr c30
       have c30b1 : (a0_0 != 1) = false := bne_eq_false_iff_eq.mpr c30
       clear c30
       (first | rw [c30b0] | (simp only [i64_w, i32_w]; rw [c30b0]) | skip)
       have H' := Aside0.mk H
       clear H
       have hnb31 := NB314_315.out
       have hnc31 := NB315_314.out
       have hnb32 := NB314_316.out
       have hnc32 := NB316_314.out
       refine cz7_ BK314.out ?_; intro hcz33_0 hcz33_1 hcz33_2 hcz33_3 hcz33_4 hcz33_5 hcz33_6 hfz33_0 hfz33_1 hfz33_2 hfz33_3 hfz33_4 hfz33_5 hfz33_6
       go_wp2
       go_meet
       case rel => exact ⟨_, (true), (by first | rfl | (simp; done) | (simp [*]; done)), H', ⟨by first | omega | exact Nat.le_refl _⟩, ⟨bk_ BK314⟩, ⟨bk_ BK315⟩, ⟨bk_ BK316⟩, ⟨bl3_ HB GE314 GE315 GE316⟩⟩
      ·rw [if_neg c30] at H
       have c30b0 : (a0_0 == 1) = false := beq_eq_false_iff_ne.mpr c30
       have c30b1 : (a0_0 != 1) = true := bne_iff_ne.mpr c30
       (first | rw [c30b0] | (simp only [i64_w, i32_w]; rw [c30b0]) | skip)
       have H' := Aside0.mk H
       clear H
       have hnb34 := NB314_315.out
       have hnc34 := NB315_314.out
       have hnb35 := NB314_316.out
       have hnc35 := NB316_314.out
       refine cz7_ BK314.out ?_; intro hcz36_0 hcz36_1 hcz36_2 hcz36_3 hcz36_4 hcz36_5 hcz36_6 hfz36_0 hfz36_1 hfz36_2 hfz36_3 hfz36_4 hfz36_5 hfz36_6
       go_wp2
       go_meet
       case rel => exact ⟨_, ((a0_0 == 2)), (by first | rfl | (simp; done) | (simp [*]; done)), H', ⟨by first | omega | exact Nat.le_refl _⟩, ⟨bk_ BK314⟩, ⟨bk_ BK315⟩, ⟨bk_ BK316⟩, ⟨bl3_ HB GE314 GE315 GE316⟩⟩
     case rest =>
      clear HC29
      try clear c1
      try clear c2
      try clear p2
      try clear c3
      try clear c3b0
      try clear c3b1
      try clear p3
      try clear q3
      try clear hx3
      try clear qi3
      try clear c4
      try clear p6
      try clear c7
      try clear c8
      try clear c10
      try clear c12
      try clear c12b0
      try clear c12b1
      try clear c18
      try clear c18b0
      try clear c18b1
      try clear c19
      try clear c19b0
      try clear c19b1
      try clear c20
      try clear c20b0
      try clear c20b1
      try clear c21
      try clear c22
      try clear c24
      try clear c26
      try clear c27
      try clear c30
      try clear c30b0
      try clear c30b1
      try clear c31
      try clear p31
      try clear q31
      try clear hx31
      try clear qi31
      try clear c32
      try clear c34
      try clear c35
      try clear hcz11_0 hcz11_1
      try clear hcz23_0 hcz23_1
      try clear hcz25_0 hcz25_1
      try clear hcz28_0 hcz28_1
      try clear hcz33_0 hcz33_1 hcz33_2 hcz33_3 hcz33_4 hcz33_5 hcz33_6
      try clear hcz36_0 hcz36_1 hcz36_2 hcz36_3 hcz36_4 hcz36_5 hcz36_6
      try clear hcz9_0 hcz9_1
      try clear hfz11_0 hfz11_1
      try clear hfz23_0 hfz23_1
      try clear hfz25_0 hfz25_1
      try clear hfz28_0 hfz28_1
      try clear hfz33_0 hfz33_1 hfz33_2 hfz33_3 hfz33_4 hfz33_5 hfz33_6
      try clear hfz36_0 hfz36_1 hfz36_2 hfz36_3 hfz36_4 hfz36_5 hfz36_6
      try clear hfz9_0 hfz9_1
      try clear hx317_0
      try clear hx318_0
      try clear p317
      try clear p318
      try clear q317
      try clear q318
      obtain ⟨kq, x35_28, rfl, HA, HJ28, BK314, BK315, BK316, HB⟩ := hcut
      cases kq with
      | zero => exact absurd HA.out (by simp [basculeref03_AnswerParse.j0])
      | succ kj28 =>
       have H := HA.out
       clear HA
       simp only [basculeref03_AnswerParse.j0] at H
       by_cases c37 : x35_28 = true
       ·subst c37
        have H1 : (if a0_2 > (wrap64 (8 * (wrap64 ((l1.length : Int) - 2)))) then (some (([] : List Int), 0, false)) else (if 2 ≤ (l1.length : Int) then ((basculeref01_Unpack.f kj28 (l1.drop 2) a0_2).bind fun t320 => (basculeref03_AnswerParse.j1 kj28 l1 a0_0 a0_1 a0_2 l0_3 a0_4 a0_5 a0_6 t320 0)) else (none))) = some (r1, r2, r3) := by rw [if_pos rfl] at H; exact H
        clear H
        have H := H1
        clear H1
        by_cases c38 : a0_2 > (wrap64 (8 * (wrap64 ((l1.length : Int) - 2))))
        ·rw [if_pos c38] at H
         have c38b0 : decide ((wrap64 (8 * (wrap64 ((l1.length : Int) - 2)))) < a0_2) = true := decide_eq_true c38
         clear c38
         simp only [Option.some.injEq, Prod.mk.injEq] at H
         obtain ⟨rfl, rfl, rfl⟩ := H
         have hnb39 := NB314_315.out
         have hnc39 := NB315_314.out
         have hnb40 := NB314_316.out
         have hnc40 := NB316_314.out
         refine cz7_ BK314.out ?_; intro hcz41_0 hcz41_1 hcz41_2 hcz41_3 hcz41_4 hcz41_5 hcz41_6 hfz41_0 hfz41_1 hfz41_2 hfz41_3 hfz41_4 hfz41_5 hfz41_6
         have hnb42 := NB316_315.out
         have hnc42 := NB315_316.out
         refine cz2_ BK316.out ?_; intro hcz43_0 hcz43_1 hfz43_0 hfz43_1
         refine cz2_ BK315.out ?_; intro hcz44_0 hcz44_1 hfz44_0 hfz44_1
         go_wp2
         refine bodyPost_ret (results_ct rfl _ _ gb315 30 #[.slice none 0 0, .int .i64 0] (0, 0) _ rfl (by (with_reducible repeat (first | refine blk_drewN ?_ _ | refine blk_drew ?_ | refine blk_alloc ?_ _)); refine blk_put (cs := #[.slice none 0 0, .int .i64 0]) ?_ 1 _ rfl; (with_reducible repeat (first | refine blk_drewN ?_ _ | refine blk_drew ?_ | refine blk_alloc ?_ _)); refine blk_put (cs := #[.slice none 0 0, .int .i64 0]) ?_ 0 _ rfl; (with_reducible repeat (first | refine blk_drewN ?_ _ | refine blk_drew ?_ | refine blk_alloc ?_ _)); exact BK315.out) Try.underlying30 rfl (by kernel_rfl)) rfl ?_
         exact ⟨_, er_, by first | exact Kd.R_nil _ _ _ _ _ | exact Kd.N_nil _ _ _ _ _ | exact Kd.V_nil _ _ _ _ _ | exact Kd.Q_nil _ _ _ _ _ | exact Kd.S_nil _ _ _ _ _, bl3_ HB GE314 GE315 GE316⟩
        ·rw [if_neg c38] at H
         have c38b0 : decide ((wrap64 (8 * (wrap64 ((l1.length : Int) - 2)))) < a0_2) = false := decide_eq_false c38
         clear c38
         by_cases c45 : 2 ≤ (l1.length : Int)
         ·rw [if_pos c45] at H
          have c45b0 := eq_true c45
          have c45b1 : decide (2 ≤ (l1.length : Int)) = true := decide_eq_true c45
          clear c45
          replace H := Option.bind_eq_some_iff.mp H
          obtain ⟨t320, A460, H⟩ := H
          replace H : (basculeref03_AnswerParse.j1 kj28 l1 a0_0 a0_1 a0_2 l0_3 a0_4 a0_5 a0_6 t320 0) = some (r1, r2, r3) := H
          have A46 := Aside0.mk A460
          clear A460
          have H' := Aside0.mk H
          clear H
          have hnb47 := NB314_315.out
          have hnc47 := NB315_314.out
          have hnb48 := NB314_316.out
          have hnc48 := NB316_314.out
          refine cz7_ BK314.out ?_; intro hcz49_0 hcz49_1 hcz49_2 hcz49_3 hcz49_4 hcz49_5 hcz49_6 hfz49_0 hfz49_1 hfz49_2 hfz49_3 hfz49_4 hfz49_5 hfz49_6
          try go_wp2
          have n0_ := Aside0.mk (blk_drew BK314.out)
          have n1_ := Aside0.mk (blk_drew BK315.out)
          have n2_ := Aside0.mk (blk_drew BK316.out)
          have n3_ := Aside0.mk (below_drew1 HB.out)
          clear BK314
          clear BK315
          clear BK316
          clear HB
          have BK314 := n0_
          have BK315 := n1_
          have BK316 := n2_
          have HB := n3_
          clear n0_ n1_ n2_ n3_
          obtain ⟨i051, hi051, _, hsz51, _⟩ := info_parts info5
          obtain ⟨A51, hcut51, hA51, hC51⟩ := print_drop_of (P := Try.prog) (Value.int .u8) 0 58 5 .i64 Try.underlying58 hi051 hsz51 (some ad317) c1 l1 2 (by omega) (of_decide_eq_true (by first | (with_reducible assumption) | assumption)) HC1.out
          have HR319 := Aside0.mk (Kd.C_of_reads (h1 := fun _ => rfl) (hA51 _ (Kd.reads_of_C HR1.out)))
          have HC319 := Aside0.mk hC51
          clear hA51 hC51 hi051 hsz51
          refine start_ (n := 7) (S := fun w' => w'.cell? ⟨gb314, 0, none⟩ = some (.int .i64 a0_0) ∧ w'.cell? ⟨gb314, 1, none⟩ = some (.int .i64 a0_1) ∧ w'.cell? ⟨gb314, 2, none⟩ = some (.int .i64 a0_2) ∧ w'.cell? ⟨gb314, 3, none⟩ = some (.slice A0_3 l0_3.length c0_3) ∧ w'.cell? ⟨gb314, 4, none⟩ = some (.int .i64 a0_4) ∧ w'.cell? ⟨gb314, 5, none⟩ = some (.int .i64 a0_5) ∧ w'.cell? ⟨gb314, 6, none⟩ = some (.int .i64 a0_6)) (ds := []) #[false, false, false, false, false, false, false] (by kernel_rfl) rfl rfl ⟨(blk_cell BK314.out 0).trans rfl, (blk_cell BK314.out 1).trans rfl, (blk_cell BK314.out 2).trans rfl, (blk_cell BK314.out 3).trans rfl, (blk_cell BK314.out 4).trans rfl, (blk_cell BK314.out 5).trans rfl, (blk_cell BK314.out 6).trans rfl⟩ (fun hHeld => ?_)
          generalize wc.drew = w50 at BK314 BK315 BK316 HB HR319 hHeld ⊢
          refine pure_ (i := 0) (N := some 44) (v := ?_) (a' := ?_) #[true, false, false, false, false, false, false] rfl rfl (by kernel_rfl) (fun _ _ _ h => h) (Or.inl ⟨by rfl, ?_⟩) ?_ ?_
          rotate_left
          ·intro w'
           go_simp
           with_reducible rfl
          rotate_left
          ·simp only [Act.put, List.setIfInBounds_toArray, List.set_cons_zero, List.set_cons_succ, i64_w, i32_w]
           rfl
          refine pure_ (i := 1) (N := some 45) (v := ?_) (a' := ?_) #[true, true, false, false, false, false, false] rfl rfl (by kernel_rfl) (fun _ _ _ h => h) (Or.inl ⟨by rfl, ?_⟩) ?_ ?_
          rotate_left
          ·intro w'
           go_simp
           with_reducible rfl
          rotate_left
          ·simp only [Act.put, List.setIfInBounds_toArray, List.set_cons_zero, List.set_cons_succ, i64_w, i32_w]
           rfl
          refine pure_ (i := 2) (N := some 46) (v := ?_) (a' := ?_) #[true, true, true, false, false, false, false] rfl rfl (by kernel_rfl) (fun _ _ _ h => h) (Or.inl ⟨by rfl, ?_⟩) ?_ ?_
          rotate_left
          ·intro w'
           go_simp
           with_reducible rfl
          rotate_left
          ·simp only [Act.put, List.setIfInBounds_toArray, List.set_cons_zero, List.set_cons_succ, i64_w, i32_w]
           rfl
          refine take_ (i := 3) (N := some 47) (v := ?_) (a' := ?_) #[true, true, true, true, false, false, false] rfl rfl (by kernel_rfl) (fun _ _ _ h => h) (Or.inl ⟨by rfl, ?_⟩) hHeld ?_ ?_
          rotate_left
          ·rintro w' ⟨s0, s1, s2, s3, s4, s5, s6⟩
           go_simp
           with_reducible rfl
          rotate_left
          ·simp only [Act.put, List.setIfInBounds_toArray, List.set_cons_zero, List.set_cons_succ, i64_w, i32_w]
           rfl
          refine one_ (i := 4) (N := some 48) #[true, true, true, true, true, false, false] rfl rfl (by kernel_rfl) (by decide) (fun K hK => ?_)
          refine goes_ Try.func64 (by kernel_rfl) rfl #[.slice A51 (l1.drop 2).length (c1 - 2), .int .i64 a0_2] (by rfl) rfl rfl (by (try simp only [List.map_toArray, List.map_cons, List.map_nil]); first | done | (rw [show (l1.drop 2).length = (l1.length - 2) from List.length_drop] <;> rfl) | rfl | (simp only [List.length_drop, List.length_take]; rfl)) ?_
          with_reducible refine (basculeref01_Unpack.calls kj28 _ _ (l1.drop 2) a0_2 t320 _ ?side1 ?side2 A46.out).mono ?_
          (case side1 => exact sc_ (Kd.C_below HR319.out HB.out))
          (case side2 => exact HC319.out)
          rintro e w52 ⟨v321, rfl, ho0, hb⟩
          refine ⟨_, rfl, ?_⟩
          have n0_ := Aside0.mk (Kd.R_lower ho0 (below_size (bl3_ HB GE314 GE315 GE316)))
          have n1_ := Aside0.mk (blk_below (g := gb314) (bk_ BK314) hb)
          have n2_ := Aside0.mk (blk_below (g := gb315) (bk_ BK315) hb)
          have n3_ := Aside0.mk (blk_below (g := gb316) (bk_ BK316) hb)
          have n4_ := Aside0.mk (below_step (bl3_ HB GE314 GE315 GE316) hb)
          clear BK314
          clear BK315
          clear BK316
          clear HB
          have HO322 := n0_
          have BK314 := n1_
          have BK315 := n2_
          have BK316 := n3_
          have HB := n4_
          clear n0_ n1_ n2_ n3_ n4_
          (try clear hb)
          (try clear hb2)
          (try clear hk)
          (try clear hi)
          (try clear ho0)
          obtain ⟨Ao53, co53, eo53⟩ := Kd.R_slice HO322.out
          (first | subst eo53 | (injection eo53 with f1_ f2_ f3_; have f4_ := f1_.symm; have f5_ := f3_.symm; clear f1_ f2_ f3_; subst f4_; subst f5_))
          refine hK.out _ _ ⟨(blk_cell BK314.out 0).trans rfl, (blk_cell BK314.out 1).trans rfl, (blk_cell BK314.out 2).trans rfl, (blk_cell BK314.out 3).trans rfl, (blk_cell BK314.out 4).trans rfl, (blk_cell BK314.out 5).trans rfl, (blk_cell BK314.out 6).trans rfl⟩ (fun hHeld => ?_)
          clear hK K
          refine norm_ (a' := ?_) ?_ ?_
          rotate_left
          ·show Act.put _ (some 48) _ = _
           simp only [Act.put, List.setIfInBounds_toArray, List.set_cons_zero, List.set_cons_succ, i64_w, i32_w]
           rfl
          refine pure_ (i := 5) (N := some 49) (v := ?_) (a' := ?_) #[true, true, true, true, true, true, false] rfl rfl (by kernel_rfl) (fun _ _ _ h => h) (Or.inl ⟨by rfl, ?_⟩) ?_ ?_
          rotate_left
          ·intro w'
           go_simp
           with_reducible rfl
          rotate_left
          ·simp only [Act.put, List.setIfInBounds_toArray, List.set_cons_zero, List.set_cons_succ, i64_w, i32_w]
           rfl
          refine one_ (i := 6) (N := none) #[true, true, true, true, true, true, true] rfl rfl (by kernel_rfl) (by decide) (fun K hK => ?_)
          have hs54 : w52.cell? ⟨gb316, 0, none⟩ = some (.slice none 0 0) := (blk_cell BK316.out 0).trans rfl
          have hfs54 := blk_frozen BK316.out 0
          have hns54_0 := NB314_316.out
          have hns54_1 := NB315_316.out
          have hms54_0 := NB316_314.out
          have hms54_1 := NB316_315.out
          refine skip_ (w1 := ?_) (by rfl) rfl ?_ ?_
          rotate_left
          ·go_simp
           rfl
          refine hK.out _ _ ⟨((cell_far (p := ⟨gb316, _, none⟩) NB314_316.out _).trans (hHeld.1)), ((cell_far (p := ⟨gb316, _, none⟩) NB314_316.out _).trans (hHeld.2.1)), ((cell_far (p := ⟨gb316, _, none⟩) NB314_316.out _).trans (hHeld.2.2.1)), ((cell_far (p := ⟨gb316, _, none⟩) NB314_316.out _).trans (hHeld.2.2.2.1)), ((cell_far (p := ⟨gb316, _, none⟩) NB314_316.out _).trans (hHeld.2.2.2.2.1)), ((cell_far (p := ⟨gb316, _, none⟩) NB314_316.out _).trans (hHeld.2.2.2.2.2.1)), ((cell_far (p := ⟨gb316, _, none⟩) NB314_316.out _).trans (hHeld.2.2.2.2.2.2))⟩ (fun hHeld => ?_)
          clear hK K
          refine done_ (by kernel_rfl) ?_
          try go_wp2
          go_meet
          case rel => exact ⟨_, (0), (t320), (0), (.slice Ao53 t320.length co53), H', ⟨by have := HJ28.out; first | omega | exact Nat.le_refl _⟩, ⟨by (with_reducible repeat (first | apply Kd.R_alloc | apply Kd.R_drewN | apply Kd.R_drew)); exact Kd.R_mono (Kd.R_far (p := ⟨gb316, 0, none⟩) (Kd.R_types HO322.out BK316.out (by decide)) (fun _ hk => hk.2) (.slice Ao53 t320.length co53)) (fun _ hk => trivial)⟩, ⟨by (with_reducible repeat (first | refine blk_drewN ?_ _ | refine blk_drew ?_ | refine blk_alloc ?_ _)); refine blk_far ?_ NB314_316.out _; (with_reducible repeat (first | refine blk_drewN ?_ _ | refine blk_drew ?_ | refine blk_alloc ?_ _)); exact BK314.out⟩, ⟨by (with_reducible repeat (first | refine blk_drewN ?_ _ | refine blk_drew ?_ | refine blk_alloc ?_ _)); refine blk_far ?_ NB315_316.out _; (with_reducible repeat (first | refine blk_drewN ?_ _ | refine blk_drew ?_ | refine blk_alloc ?_ _)); exact BK315.out⟩, ⟨by (with_reducible repeat (first | refine blk_drewN ?_ _ | refine blk_drew ?_ | refine blk_alloc ?_ _)); refine blk_put (cs := #[.slice none 0 0, .int .i64 0]) ?_ 0 _ rfl; (with_reducible repeat (first | refine blk_drewN ?_ _ | refine blk_drew ?_ | refine blk_alloc ?_ _)); exact BK316.out⟩, ⟨bl3_ HB GE314 GE315 GE316⟩⟩
         ·rw [if_neg c45] at H
          exact absurd H (by simp)
       ·replace c37 := Bool.eq_false_iff.mpr c37
        subst c37
        have H1 : (if a0_0 = 3 then (if 2 ≤ (l1.length : Int) then ((basculeref03_read.f kj28 (l1.drop 2)).bind fun t324 => (basculeref03_AnswerParse.j1 kj28 l1 a0_0 a0_1 a0_2 l0_3 a0_4 a0_5 a0_6 t324 0)) else (none)) else (if a0_0 = 4 then (if 2 ≤ (l1.length : Int) then ((basculeref03_read.f kj28 (l1.drop 2)).bind fun t328 => (basculeref03_AnswerParse.j1 kj28 l1 a0_0 a0_1 a0_2 l0_3 a0_4 a0_5 a0_6 t328 0)) else (none)) else (if a0_0 = 23 then (if 2 ≤ (l1.length : Int) then ((basculeref03_read.f kj28 (l1.drop 2)).bind fun t332 => (basculeref03_AnswerParse.j1 kj28 l1 a0_0 a0_1 a0_2 l0_3 a0_4 a0_5 a0_6 t332 0)) else (none)) else (basculeref03_AnswerParse.j1 kj28 l1 a0_0 a0_1 a0_2 l0_3 a0_4 a0_5 a0_6 ([] : List Int) 0)))) = some (r1, r2, r3) := by rw [if_neg (show ¬ (false = true) by decide)] at H; exact H
        clear H
        have H := H1
        clear H1
        by_cases c55 : a0_0 = 3
        ·rw [if_pos c55] at H
         have c55b0 : (a0_0 == 3) = true := beq_iff_eq.mpr c55
         have c55b1 : (a0_0 != 3) = false := bne_eq_false_iff_eq.mpr c55
         clear c55
         by_cases c56 : 2 ≤ (l1.length : Int)
         ·rw [if_pos c56] at H
          have c56b0 := eq_true c56
          have c56b1 : decide (2 ≤ (l1.length : Int)) = true := decide_eq_true c56
          clear c56
          replace H := Option.bind_eq_some_iff.mp H
          obtain ⟨t324, A570, H⟩ := H
          replace H : (basculeref03_AnswerParse.j1 kj28 l1 a0_0 a0_1 a0_2 l0_3 a0_4 a0_5 a0_6 t324 0) = some (r1, r2, r3) := H
          have A57 := Aside0.mk A570
          clear A570
          have H' := Aside0.mk H
          clear H
          have hnb58 := NB314_315.out
          have hnc58 := NB315_314.out
          have hnb59 := NB314_316.out
          have hnc59 := NB316_314.out
          refine cz7_ BK314.out ?_; intro hcz60_0 hcz60_1 hcz60_2 hcz60_3 hcz60_4 hcz60_5 hcz60_6 hfz60_0 hfz60_1 hfz60_2 hfz60_3 hfz60_4 hfz60_5 hfz60_6
          obtain ⟨i061, hi061, _, hsz61, _⟩ := info_parts info5
          obtain ⟨A61, hcut61, hA61, hC61⟩ := print_drop_of (P := Try.prog) (Value.int .u8) 0 58 5 .i64 Try.underlying58 hi061 hsz61 (some ad317) c1 l1 2 (by omega) (of_decide_eq_true (by first | (with_reducible assumption) | assumption)) HC1.out
          have HR323 := Aside0.mk (Kd.C_of_reads (h1 := fun _ => rfl) (hA61 _ (Kd.reads_of_C HR1.out)))
          have HC323 := Aside0.mk hC61
          clear hA61 hC61 hi061 hsz61
          go_wp2_with (first | ((with_reducible refine gate_callee (f := 65) rfl ?_); refine goesL_ (some 65) rfl rfl Try.func65 (by kernel_rfl) rfl #[.slice A61 (l1.drop 2).length (c1 - 2)] rfl (by (try simp only [List.map_toArray, List.map_cons, List.map_nil]); first | done | (rw [show (l1.drop 2).length = (l1.length - 2) from List.length_drop] <;> rfl) | rfl | (simp only [List.length_drop, List.length_take]; rfl)) ?_; (with_reducible refine (basculeref03_read.calls kj28 _ _ (l1.drop 2) t324 _ ?side1 ?side2 A57.out).mono ?_); (case side1 => exact sc_ (Kd.C_below HR323.out HB.out)); (case side2 => exact HC323.out); rintro e w62 ⟨v325, rfl, ho0, hb⟩; refine ⟨_, rfl, ?_⟩; have n0_ := Aside0.mk (Kd.R_lower ho0 (below_size (bl3_ HB GE314 GE315 GE316))); have n1_ := Aside0.mk (blk_below (g := gb314) (bk_ BK314) hb); have n2_ := Aside0.mk (blk_below (g := gb315) (bk_ BK315) hb); have n3_ := Aside0.mk (blk_below (g := gb316) (bk_ BK316) hb); have n4_ := Aside0.mk (below_step (bl3_ HB GE314 GE315 GE316) hb); clear BK314; clear BK315; clear BK316; clear HB; have HO326 := n0_; have BK314 := n1_; have BK315 := n2_; have BK316 := n3_; have HB := n4_; clear n0_ n1_ n2_ n3_ n4_; (try clear hb); (try clear hb2); (try clear hk); (try clear hi); (try clear ho0); obtain ⟨Ao63, co63, eo63⟩ := Kd.R_slice HO326.out; subst eo63; have hnb64 := NB316_315.out; have hnc64 := NB315_316.out; refine cz2_ BK316.out ?_; intro hcz65_0 hcz65_1 hfz65_0 hfz65_1))
          go_meet
          case rel => exact ⟨_, (0), (t324), (0), (.slice Ao63 t324.length co63), H', ⟨by have := HJ28.out; first | omega | exact Nat.le_refl _⟩, ⟨by (with_reducible repeat (first | apply Kd.R_alloc | apply Kd.R_drewN | apply Kd.R_drew)); exact Kd.R_mono (Kd.R_far (p := ⟨gb316, 0, none⟩) (Kd.R_types HO326.out BK316.out (by decide)) (fun _ hk => hk.2) (.slice Ao63 t324.length co63)) (fun _ hk => trivial)⟩, ⟨by (with_reducible repeat (first | refine blk_drewN ?_ _ | refine blk_drew ?_ | refine blk_alloc ?_ _)); refine blk_far ?_ NB314_316.out _; (with_reducible repeat (first | refine blk_drewN ?_ _ | refine blk_drew ?_ | refine blk_alloc ?_ _)); exact BK314.out⟩, ⟨by (with_reducible repeat (first | refine blk_drewN ?_ _ | refine blk_drew ?_ | refine blk_alloc ?_ _)); refine blk_far ?_ NB315_316.out _; (with_reducible repeat (first | refine blk_drewN ?_ _ | refine blk_drew ?_ | refine blk_alloc ?_ _)); exact BK315.out⟩, ⟨by (with_reducible repeat (first | refine blk_drewN ?_ _ | refine blk_drew ?_ | refine blk_alloc ?_ _)); refine blk_put (cs := #[.slice none 0 0, .int .i64 0]) ?_ 0 _ rfl; (with_reducible repeat (first | refine blk_drewN ?_ _ | refine blk_drew ?_ | refine blk_alloc ?_ _)); exact BK316.out⟩, ⟨bl3_ HB GE314 GE315 GE316⟩⟩
         ·rw [if_neg c56] at H
          exact absurd H (by simp)
        ·rw [if_neg c55] at H
         have c55b0 : (a0_0 == 3) = false := beq_eq_false_iff_ne.mpr c55
         have c55b1 : (a0_0 != 3) = true := bne_iff_ne.mpr c55
         by_cases c66 : a0_0 = 4
         ·rw [if_pos c66] at H
          have c66b0 : (a0_0 == 4) = true := beq_iff_eq.mpr c66
          have c66b1 : (a0_0 != 4) = false := bne_eq_false_iff_eq.mpr c66
          clear c66
          by_cases c67 : 2 ≤ (l1.length : Int)
          ·rw [if_pos c67] at H
           have c67b0 := eq_true c67
           have c67b1 : decide (2 ≤ (l1.length : Int)) = true := decide_eq_true c67
           clear c67
           replace H := Option.bind_eq_some_iff.mp H
           obtain ⟨t328, A680, H⟩ := H
           replace H : (basculeref03_AnswerParse.j1 kj28 l1 a0_0 a0_1 a0_2 l0_3 a0_4 a0_5 a0_6 t328 0) = some (r1, r2, r3) := H
           have A68 := Aside0.mk A680
           clear A680
           have H' := Aside0.mk H
           clear H
           have hnb69 := NB314_315.out
           have hnc69 := NB315_314.out
           have hnb70 := NB314_316.out
           have hnc70 := NB316_314.out
           refine cz7_ BK314.out ?_; intro hcz71_0 hcz71_1 hcz71_2 hcz71_3 hcz71_4 hcz71_5 hcz71_6 hfz71_0 hfz71_1 hfz71_2 hfz71_3 hfz71_4 hfz71_5 hfz71_6
           obtain ⟨i072, hi072, _, hsz72, _⟩ := info_parts info5
           obtain ⟨A72, hcut72, hA72, hC72⟩ := print_drop_of (P := Try.prog) (Value.int .u8) 0 58 5 .i64 Try.underlying58 hi072 hsz72 (some ad317) c1 l1 2 (by omega) (of_decide_eq_true (by first | (with_reducible assumption) | assumption)) HC1.out
           have HR327 := Aside0.mk (Kd.C_of_reads (h1 := fun _ => rfl) (hA72 _ (Kd.reads_of_C HR1.out)))
           have HC327 := Aside0.mk hC72
           clear hA72 hC72 hi072 hsz72
           go_wp2_with (first | ((with_reducible refine gate_callee (f := 65) rfl ?_); refine goesL_ (some 65) rfl rfl Try.func65 (by kernel_rfl) rfl #[.slice A72 (l1.drop 2).length (c1 - 2)] rfl (by (try simp only [List.map_toArray, List.map_cons, List.map_nil]); first | done | (rw [show (l1.drop 2).length = (l1.length - 2) from List.length_drop] <;> rfl) | rfl | (simp only [List.length_drop, List.length_take]; rfl)) ?_; (with_reducible refine (basculeref03_read.calls kj28 _ _ (l1.drop 2) t328 _ ?side1 ?side2 A68.out).mono ?_); (case side1 => exact sc_ (Kd.C_below HR327.out HB.out)); (case side2 => exact HC327.out); rintro e w73 ⟨v329, rfl, ho0, hb⟩; refine ⟨_, rfl, ?_⟩; have n0_ := Aside0.mk (Kd.R_lower ho0 (below_size (bl3_ HB GE314 GE315 GE316))); have n1_ := Aside0.mk (blk_below (g := gb314) (bk_ BK314) hb); have n2_ := Aside0.mk (blk_below (g := gb315) (bk_ BK315) hb); have n3_ := Aside0.mk (blk_below (g := gb316) (bk_ BK316) hb); have n4_ := Aside0.mk (below_step (bl3_ HB GE314 GE315 GE316) hb); clear BK314; clear BK315; clear BK316; clear HB; have HO330 := n0_; have BK314 := n1_; have BK315 := n2_; have BK316 := n3_; have HB := n4_; clear n0_ n1_ n2_ n3_ n4_; (try clear hb); (try clear hb2); (try clear hk); (try clear hi); (try clear ho0); obtain ⟨Ao74, co74, eo74⟩ := Kd.R_slice HO330.out; subst eo74; have hnb75 := NB316_315.out; have hnc75 := NB315_316.out; refine cz2_ BK316.out ?_; intro hcz76_0 hcz76_1 hfz76_0 hfz76_1))
           go_meet
           case rel => exact ⟨_, (0), (t328), (0), (.slice Ao74 t328.length co74), H', ⟨by have := HJ28.out; first | omega | exact Nat.le_refl _⟩, ⟨by (with_reducible repeat (first | apply Kd.R_alloc | apply Kd.R_drewN | apply Kd.R_drew)); exact Kd.R_mono (Kd.R_far (p := ⟨gb316, 0, none⟩) (Kd.R_types HO330.out BK316.out (by decide)) (fun _ hk => hk.2) (.slice Ao74 t328.length co74)) (fun _ hk => trivial)⟩, ⟨by (with_reducible repeat (first | refine blk_drewN ?_ _ | refine blk_drew ?_ | refine blk_alloc ?_ _)); refine blk_far ?_ NB314_316.out _; (with_reducible repeat (first | refine blk_drewN ?_ _ | refine blk_drew ?_ | refine blk_alloc ?_ _)); exact BK314.out⟩, ⟨by (with_reducible repeat (first | refine blk_drewN ?_ _ | refine blk_drew ?_ | refine blk_alloc ?_ _)); refine blk_far ?_ NB315_316.out _; (with_reducible repeat (first | refine blk_drewN ?_ _ | refine blk_drew ?_ | refine blk_alloc ?_ _)); exact BK315.out⟩, ⟨by (with_reducible repeat (first | refine blk_drewN ?_ _ | refine blk_drew ?_ | refine blk_alloc ?_ _)); refine blk_put (cs := #[.slice none 0 0, .int .i64 0]) ?_ 0 _ rfl; (with_reducible repeat (first | refine blk_drewN ?_ _ | refine blk_drew ?_ | refine blk_alloc ?_ _)); exact BK316.out⟩, ⟨bl3_ HB GE314 GE315 GE316⟩⟩
          ·rw [if_neg c67] at H
           exact absurd H (by simp)
         ·rw [if_neg c66] at H
          have c66b0 : (a0_0 == 4) = false := beq_eq_false_iff_ne.mpr c66
          have c66b1 : (a0_0 != 4) = true := bne_iff_ne.mpr c66
          by_cases c77 : a0_0 = 23
          ·rw [if_pos c77] at H
           have c77b0 : (a0_0 == 23) = true := beq_iff_eq.mpr c77
           have c77b1 : (a0_0 != 23) = false := bne_eq_false_iff_eq.mpr c77
           clear c77
           by_cases c78 : 2 ≤ (l1.length : Int)
           ·rw [if_pos c78] at H
            have c78b0 := eq_true c78
            have c78b1 : decide (2 ≤ (l1.length : Int)) = true := decide_eq_true c78
            clear c78
            replace H := Option.bind_eq_some_iff.mp H
            obtain ⟨t332, A790, H⟩ := H
            replace H : (basculeref03_AnswerParse.j1 kj28 l1 a0_0 a0_1 a0_2 l0_3 a0_4 a0_5 a0_6 t332 0) = some (r1, r2, r3) := H
            have A79 := Aside0.mk A790
            clear A790
            have H' := Aside0.mk H
            clear H
            have hnb80 := NB314_315.out
            have hnc80 := NB315_314.out
            have hnb81 := NB314_316.out
            have hnc81 := NB316_314.out
            refine cz7_ BK314.out ?_; intro hcz82_0 hcz82_1 hcz82_2 hcz82_3 hcz82_4 hcz82_5 hcz82_6 hfz82_0 hfz82_1 hfz82_2 hfz82_3 hfz82_4 hfz82_5 hfz82_6
            obtain ⟨i083, hi083, _, hsz83, _⟩ := info_parts info5
            obtain ⟨A83, hcut83, hA83, hC83⟩ := print_drop_of (P := Try.prog) (Value.int .u8) 0 58 5 .i64 Try.underlying58 hi083 hsz83 (some ad317) c1 l1 2 (by omega) (of_decide_eq_true (by first | (with_reducible assumption) | assumption)) HC1.out
            have HR331 := Aside0.mk (Kd.C_of_reads (h1 := fun _ => rfl) (hA83 _ (Kd.reads_of_C HR1.out)))
            have HC331 := Aside0.mk hC83
            clear hA83 hC83 hi083 hsz83
            go_wp2_with (first | ((with_reducible refine gate_callee (f := 65) rfl ?_); refine goesL_ (some 65) rfl rfl Try.func65 (by kernel_rfl) rfl #[.slice A83 (l1.drop 2).length (c1 - 2)] rfl (by (try simp only [List.map_toArray, List.map_cons, List.map_nil]); first | done | (rw [show (l1.drop 2).length = (l1.length - 2) from List.length_drop] <;> rfl) | rfl | (simp only [List.length_drop, List.length_take]; rfl)) ?_; (with_reducible refine (basculeref03_read.calls kj28 _ _ (l1.drop 2) t332 _ ?side1 ?side2 A79.out).mono ?_); (case side1 => exact sc_ (Kd.C_below HR331.out HB.out)); (case side2 => exact HC331.out); rintro e w84 ⟨v333, rfl, ho0, hb⟩; refine ⟨_, rfl, ?_⟩; have n0_ := Aside0.mk (Kd.R_lower ho0 (below_size (bl3_ HB GE314 GE315 GE316))); have n1_ := Aside0.mk (blk_below (g := gb314) (bk_ BK314) hb); have n2_ := Aside0.mk (blk_below (g := gb315) (bk_ BK315) hb); have n3_ := Aside0.mk (blk_below (g := gb316) (bk_ BK316) hb); have n4_ := Aside0.mk (below_step (bl3_ HB GE314 GE315 GE316) hb); clear BK314; clear BK315; clear BK316; clear HB; have HO334 := n0_; have BK314 := n1_; have BK315 := n2_; have BK316 := n3_; have HB := n4_; clear n0_ n1_ n2_ n3_ n4_; (try clear hb); (try clear hb2); (try clear hk); (try clear hi); (try clear ho0); obtain ⟨Ao85, co85, eo85⟩ := Kd.R_slice HO334.out; subst eo85; have hnb86 := NB316_315.out; have hnc86 := NB315_316.out; refine cz2_ BK316.out ?_; intro hcz87_0 hcz87_1 hfz87_0 hfz87_1))
            go_meet
            case rel => exact ⟨_, (0), (t332), (0), (.slice Ao85 t332.length co85), H', ⟨by have := HJ28.out; first | omega | exact Nat.le_refl _⟩, ⟨by (with_reducible repeat (first | apply Kd.R_alloc | apply Kd.R_drewN | apply Kd.R_drew)); exact Kd.R_mono (Kd.R_far (p := ⟨gb316, 0, none⟩) (Kd.R_types HO334.out BK316.out (by decide)) (fun _ hk => hk.2) (.slice Ao85 t332.length co85)) (fun _ hk => trivial)⟩, ⟨by (with_reducible repeat (first | refine blk_drewN ?_ _ | refine blk_drew ?_ | refine blk_alloc ?_ _)); refine blk_far ?_ NB314_316.out _; (with_reducible repeat (first | refine blk_drewN ?_ _ | refine blk_drew ?_ | refine blk_alloc ?_ _)); exact BK314.out⟩, ⟨by (with_reducible repeat (first | refine blk_drewN ?_ _ | refine blk_drew ?_ | refine blk_alloc ?_ _)); refine blk_far ?_ NB315_316.out _; (with_reducible repeat (first | refine blk_drewN ?_ _ | refine blk_drew ?_ | refine blk_alloc ?_ _)); exact BK315.out⟩, ⟨by (with_reducible repeat (first | refine blk_drewN ?_ _ | refine blk_drew ?_ | refine blk_alloc ?_ _)); refine blk_put (cs := #[.slice none 0 0, .int .i64 0]) ?_ 0 _ rfl; (with_reducible repeat (first | refine blk_drewN ?_ _ | refine blk_drew ?_ | refine blk_alloc ?_ _)); exact BK316.out⟩, ⟨bl3_ HB GE314 GE315 GE316⟩⟩
           ·rw [if_neg c78] at H
            exact absurd H (by simp)
          ·rw [if_neg c77] at H
           have c77b0 : (a0_0 == 23) = false := beq_eq_false_iff_ne.mpr c77
           have c77b1 : (a0_0 != 23) = true := bne_iff_ne.mpr c77
           have H' := Aside0.mk H
           clear H
           have hnb88 := NB314_315.out
           have hnc88 := NB315_314.out
           have hnb89 := NB314_316.out
           have hnc89 := NB316_314.out
           refine cz7_ BK314.out ?_; intro hcz90_0 hcz90_1 hcz90_2 hcz90_3 hcz90_4 hcz90_5 hcz90_6 hfz90_0 hfz90_1 hfz90_2 hfz90_3 hfz90_4 hfz90_5 hfz90_6
           go_wp2
           go_meet
           case rel => exact ⟨_, (0), (([] : List Int)), (0), (.slice none 0 0), H', ⟨by have := HJ28.out; first | omega | exact Nat.le_refl _⟩, ⟨by first | exact Kd.R_nil _ _ _ _ _ | exact Kd.N_nil _ _ _ _ _ | exact Kd.V_nil _ _ _ _ _ | exact Kd.Q_nil _ _ _ _ _ | exact Kd.S_nil _ _ _ _ _⟩, ⟨bk_ BK314⟩, ⟨bk_ BK315⟩, ⟨bk_ BK316⟩, ⟨bl3_ HB GE314 GE315 GE316⟩⟩
   case rest =>
    clear HC13
    try clear c1
    try clear c2
    try clear p2
    try clear c3
    try clear c3b0
    try clear c3b1
    try clear p3
    try clear q3
    try clear hx3
    try clear qi3
    try clear c4
    try clear c5
    try clear c6
    try clear p6
    try clear c7
    try clear c8
    try clear c10
    try clear c12
    try clear c12b0
    try clear c12b1
    try clear c18
    try clear c18b0
    try clear c18b1
    try clear c19
    try clear c19b0
    try clear c19b1
    try clear c20
    try clear c20b0
    try clear c20b1
    try clear c21
    try clear c22
    try clear c24
    try clear c26
    try clear c27
    try clear c30
    try clear c30b0
    try clear c30b1
    try clear c31
    try clear p31
    try clear q31
    try clear hx31
    try clear qi31
    try clear c32
    try clear c34
    try clear c35
    try clear c37
    try clear c38
    try clear c38b0
    try clear c39
    try clear c40
    try clear c42
    try clear c45
    try clear c45b0
    try clear c45b1
    try clear c47
    try clear c48
    try clear c55
    try clear c55b0
    try clear c55b1
    try clear c56
    try clear c56b0
    try clear c56b1
    try clear c58
    try clear c59
    try clear c64
    try clear p64
    try clear c65
    try clear c66
    try clear c66b0
    try clear c66b1
    try clear c67
    try clear c67b0
    try clear c67b1
    try clear c69
    try clear c70
    try clear c75
    try clear c77
    try clear c77b0
    try clear c77b1
    try clear c78
    try clear c78b0
    try clear c78b1
    try clear c80
    try clear c81
    try clear c86
    try clear c88
    try clear c89
    try clear hcz11_0 hcz11_1
    try clear hcz23_0 hcz23_1
    try clear hcz25_0 hcz25_1
    try clear hcz28_0 hcz28_1
    try clear hcz33_0 hcz33_1 hcz33_2 hcz33_3 hcz33_4 hcz33_5 hcz33_6
    try clear hcz36_0 hcz36_1 hcz36_2 hcz36_3 hcz36_4 hcz36_5 hcz36_6
    try clear hcz41_0 hcz41_1 hcz41_2 hcz41_3 hcz41_4 hcz41_5 hcz41_6
    try clear hcz43_0 hcz43_1
    try clear hcz44_0 hcz44_1
    try clear hcz49_0 hcz49_1 hcz49_2 hcz49_3 hcz49_4 hcz49_5 hcz49_6
    try clear hcz60_0 hcz60_1 hcz60_2 hcz60_3 hcz60_4 hcz60_5 hcz60_6
    try clear hcz65_0 hcz65_1
    try clear hcz71_0 hcz71_1 hcz71_2 hcz71_3 hcz71_4 hcz71_5 hcz71_6
    try clear hcz76_0 hcz76_1
    try clear hcz82_0 hcz82_1 hcz82_2 hcz82_3 hcz82_4 hcz82_5 hcz82_6
    try clear hcz87_0 hcz87_1
    try clear hcz90_0 hcz90_1 hcz90_2 hcz90_3 hcz90_4 hcz90_5 hcz90_6
    try clear hcz9_0 hcz9_1
    try clear hfz11_0 hfz11_1
    try clear hfz23_0 hfz23_1
    try clear hfz25_0 hfz25_1
    try clear hfz28_0 hfz28_1
    try clear hfz33_0 hfz33_1 hfz33_2 hfz33_3 hfz33_4 hfz33_5 hfz33_6
    try clear hfz36_0 hfz36_1 hfz36_2 hfz36_3 hfz36_4 hfz36_5 hfz36_6
    try clear hfz41_0 hfz41_1 hfz41_2 hfz41_3 hfz41_4 hfz41_5 hfz41_6
    try clear hfz43_0 hfz43_1
    try clear hfz44_0 hfz44_1
    try clear hfz49_0 hfz49_1 hfz49_2 hfz49_3 hfz49_4 hfz49_5 hfz49_6
    try clear hfz60_0 hfz60_1 hfz60_2 hfz60_3 hfz60_4 hfz60_5 hfz60_6
    try clear hfz65_0 hfz65_1
    try clear hfz71_0 hfz71_1 hfz71_2 hfz71_3 hfz71_4 hfz71_5 hfz71_6
    try clear hfz76_0 hfz76_1
    try clear hfz82_0 hfz82_1 hfz82_2 hfz82_3 hfz82_4 hfz82_5 hfz82_6
    try clear hfz87_0 hfz87_1
    try clear hfz90_0 hfz90_1 hfz90_2 hfz90_3 hfz90_4 hfz90_5 hfz90_6
    try clear hfz9_0 hfz9_1
    try clear hx317_0
    try clear hx318_0
    try clear p2
    try clear p3
    try clear p31
    try clear p317
    try clear p318
    try clear p6
    try clear q3
    try clear q31
    try clear q317
    try clear q318
    obtain ⟨kq, x316001_12, x317000_12, x317001_12, u317000, HA, HJ12, HO_317000, BK314, BK315, BK316, HB⟩ := hcut
    cases kq with
    | zero => exact absurd HA.out (by simp [basculeref03_AnswerParse.j1])
    | succ kj12 =>
     have H := HA.out
     clear HA
     simp only [basculeref03_AnswerParse.j1] at H
     replace H := Option.bind_eq_some_iff.mp H
     obtain ⟨t335, A910, H⟩ := H
     replace H : (if t335 = true then ((basculeref03_AnswerBytes.f kj12 a0_0 a0_1 a0_2 l0_3 a0_4 a0_5 a0_6 x317000_12 x317001_12).bind fun t336 => (if (strOfNums t336).toList = (strOfNums l1).toList then (some (x317000_12, x317001_12, true)) else (some (([] : List Int), 0, false)))) else (some (([] : List Int), 0, false))) = some (r1, r2, r3) := H
     have A91 := Aside0.mk A910
     clear A910
     by_cases c92 : t335 = true
     ·subst c92
      have H1 : ((basculeref03_AnswerBytes.f kj12 a0_0 a0_1 a0_2 l0_3 a0_4 a0_5 a0_6 x317000_12 x317001_12).bind fun t336 => (if (strOfNums t336).toList = (strOfNums l1).toList then (some (x317000_12, x317001_12, true)) else (some (([] : List Int), 0, false)))) = some (r1, r2, r3) := by rw [if_pos rfl] at H; exact H
      clear H
      have H := H1
      clear H1
      replace H := Option.bind_eq_some_iff.mp H
      obtain ⟨t336, A930, H⟩ := H
      replace H : (if (strOfNums t336).toList = (strOfNums l1).toList then (some (x317000_12, x317001_12, true)) else (some (([] : List Int), 0, false))) = some (r1, r2, r3) := H
      have A93 := Aside0.mk A930
      clear A930
      by_cases c94 : (strOfNums t336).toList = (strOfNums l1).toList
      ·rw [if_pos c94] at H
       have c94b0 : ((strOfNums t336).toList == (strOfNums l1).toList) = true := beq_iff_eq.mpr c94
       have c94b1 : ((strOfNums t336).toList != (strOfNums l1).toList) = false := bne_eq_false_iff_eq.mpr c94
       clear c94
       simp only [Option.some.injEq, Prod.mk.injEq] at H
       obtain ⟨rfl, rfl, rfl⟩ := H
       obtain ⟨Ao95, co95, eo95⟩ := Kd.R_slice HO_317000.out
       subst eo95
       try go_wp2
       have n0_ := Aside0.mk (Kd.R_drew HO_317000.out)
       have n1_ := Aside0.mk (blk_drew BK314.out)
       have n2_ := Aside0.mk (blk_drew BK315.out)
       have n3_ := Aside0.mk (blk_drew BK316.out)
       have n4_ := Aside0.mk (below_drew1 HB.out)
       clear HO_317000
       clear BK314
       clear BK315
       clear BK316
       clear HB
       have HO_317000 := n0_
       have BK314 := n1_
       have BK315 := n2_
       have BK316 := n3_
       have HB := n4_
       clear n0_ n1_ n2_ n3_ n4_
       refine start_ (n := 13) (S := fun w' => (w'.cell? ⟨gb314, 0, none⟩ = some (.int .i64 a0_0) ∧ w'.cell? ⟨gb314, 1, none⟩ = some (.int .i64 a0_1) ∧ w'.cell? ⟨gb314, 2, none⟩ = some (.int .i64 a0_2) ∧ w'.cell? ⟨gb314, 3, none⟩ = some (.slice A0_3 l0_3.length c0_3) ∧ w'.cell? ⟨gb314, 4, none⟩ = some (.int .i64 a0_4) ∧ w'.cell? ⟨gb314, 5, none⟩ = some (.int .i64 a0_5) ∧ w'.cell? ⟨gb314, 6, none⟩ = some (.int .i64 a0_6) ∧ w'.cell? ⟨gb316, 0, none⟩ = some (.slice Ao95 x317000_12.length co95) ∧ w'.cell? ⟨gb316, 1, none⟩ = some (.int .i64 x317001_12)) ∧ Sem.run Try.prog (convert 58 9 (.slice (some ad317) l1.length c1)) w' = .ok (.string (strOfNums l1)) w') (ds := []) #[false, false, false, false, false, false, false, false, false, false, false, false, false] (by kernel_rfl) rfl rfl ⟨⟨(blk_cell BK314.out 0).trans rfl, (blk_cell BK314.out 1).trans rfl, (blk_cell BK314.out 2).trans rfl, (blk_cell BK314.out 3).trans rfl, (blk_cell BK314.out 4).trans rfl, (blk_cell BK314.out 5).trans rfl, (blk_cell BK314.out 6).trans rfl, (blk_cell BK316.out 0).trans rfl, (blk_cell BK316.out 1).trans rfl⟩, (string_of_reads (P := Try.prog) (c := c1) Try.underlying58 Try.underlying5 Try.underlying9 (Kd.reads_of_C (Kd.C_below HR1.out (by repeat (first | exact HB.out | apply below_alloc | apply pw_below_drewN | apply below_drew1 | apply below_drew)))))⟩ (fun hHeld => ?_); refine with_tabW basculeref03_AnswerParse.tab14 basculeref03_AnswerParse.bits14 (fun HT_ HW_ => ?_)
       generalize wc.drew = w96 at HO_317000 BK314 BK315 BK316 HB hHeld ⊢
       refine take_ (i := 0) (N := some 67) (v := ?_) (a' := ?_) #[true, false, false, false, false, false, false, false, false, false, false, false, false] rfl rfl (take_ofW HT_.out HW_.out (by kernel_rfl)) (fun _ _ _ h => h) (Or.inl ⟨by rfl, ?_⟩) hHeld ?_ ?_
       rotate_left
       ·rintro w' ⟨⟨s0, s1, s2, s3, s4, s5, s6, s7, s8⟩, sc_⟩
        go_simp
        with_reducible rfl
       rotate_left
       ·simp only [Act.put, List.setIfInBounds_toArray, List.set_cons_zero, List.set_cons_succ, i64_w, i32_w]
        rfl
       refine take_ (i := 1) (N := some 68) (v := ?_) (a' := ?_) #[true, true, false, false, false, false, false, false, false, false, false, false, false] rfl rfl (take_ofW HT_.out HW_.out (by kernel_rfl)) (fun _ _ _ h => h) (Or.inl ⟨by rfl, ?_⟩) hHeld ?_ ?_
       rotate_left
       ·rintro w' ⟨⟨s0, s1, s2, s3, s4, s5, s6, s7, s8⟩, sc_⟩
        go_simp
        with_reducible rfl
       rotate_left
       ·simp only [Act.put, List.setIfInBounds_toArray, List.set_cons_zero, List.set_cons_succ, i64_w, i32_w]
        rfl
       refine one_ (i := 2) (N := some 69) #[true, true, true, false, false, false, false, false, false, false, false, false, false] rfl rfl (one_of HT_.out (by kernel_rfl)) (by decide) (fun K hK => ?_)
       refine goes_ Try.func37 (by kernel_rfl) rfl #[.agg #[.int .i64 a0_0, .int .i64 a0_1, .int .i64 a0_2, .slice A0_3 l0_3.length c0_3, .int .i64 a0_4, .int .i64 a0_5, .int .i64 a0_6], .agg #[.slice Ao95 x317000_12.length co95, .int .i64 x317001_12]] (by rfl) rfl rfl ar_ ?_
       with_reducible refine (basculeref03_AnswerMay.calls kj12 a0_0 a0_1 a0_2 _ _ l0_3 a0_4 a0_5 a0_6 _ _ x317000_12 x317001_12 true _ ?side1 ?side2 ?side3 ?side4 A91.out).mono ?_
       (case side1 => exact sc_ (Kd.C_below HR0_3.out HB.out))
       (case side2 => exact HC0_3.out)
       (case side3 => exact sc_ (Kd.R_reads' HO_317000.out).2.2)
       (case side4 => exact (Kd.R_reads' HO_317000.out).2.1)
       rintro e w97 ⟨rfl, hb⟩
       refine ⟨_, rfl, ?_⟩
       have n0_ := Aside0.mk (Kd.R_below (kr_ HO_317000) hb)
       have n1_ := Aside0.mk (blk_below (g := gb314) (bk_ BK314) hb)
       have n2_ := Aside0.mk (blk_below (g := gb315) (bk_ BK315) hb)
       have n3_ := Aside0.mk (blk_below (g := gb316) (bk_ BK316) hb)
       have n4_ := Aside0.mk (below_step (bl3_ HB GE314 GE315 GE316) hb)
       clear HO_317000
       clear BK314
       clear BK315
       clear BK316
       clear HB
       have HO_317000 := n0_
       have BK314 := n1_
       have BK315 := n2_
       have BK316 := n3_
       have HB := n4_
       clear n0_ n1_ n2_ n3_ n4_
       (try clear hb)
       (try clear hb2)
       (try clear hk)
       (try clear hi)
       refine hK.out _ _ ⟨⟨(blk_cell BK314.out 0).trans rfl, (blk_cell BK314.out 1).trans rfl, (blk_cell BK314.out 2).trans rfl, (blk_cell BK314.out 3).trans rfl, (blk_cell BK314.out 4).trans rfl, (blk_cell BK314.out 5).trans rfl, (blk_cell BK314.out 6).trans rfl, (blk_cell BK316.out 0).trans rfl, (blk_cell BK316.out 1).trans rfl⟩, (string_of_reads (P := Try.prog) (c := c1) Try.underlying58 Try.underlying5 Try.underlying9 (Kd.reads_of_C (Kd.C_below HR1.out (by repeat (first | exact HB.out | apply below_alloc | apply pw_below_drewN | apply below_drew1 | apply below_drew)))))⟩ (fun hHeld => ?_)
       clear hK K
       refine norm_ (a' := ?_) ?_ ?_
       rotate_left
       ·show Act.put _ (some 69) _ = _
        simp only [Act.put, List.setIfInBounds_toArray, List.set_cons_zero, List.set_cons_succ, i64_w, i32_w]
        rfl
       refine pure_ (i := 3) (N := some 70) (v := ?_) (a' := ?_) #[true, true, true, true, false, false, false, false, false, false, false, false, false] rfl rfl (any_of HT_.out (by kernel_rfl)) (fun _ _ _ h => h) (Or.inl ⟨by rfl, ?_⟩) ?_ ?_
       rotate_left
       ·intro w'
        go_simp
        with_reducible rfl
       rotate_left
       ·simp only [Act.put, List.setIfInBounds_toArray, List.set_cons_zero, List.set_cons_succ, i64_w, i32_w]
        rfl
       refine pure_ (i := 4) (N := some 71) (v := ?_) (a' := ?_) #[true, true, true, true, true, false, false, false, false, false, false, false, false] rfl rfl (any_of HT_.out (by kernel_rfl)) (fun _ _ _ h => h) (Or.inl ⟨by rfl, ?_⟩) ?_ ?_
       rotate_left
       ·intro w'
        go_simp
        with_reducible rfl
       rotate_left
       ·simp only [Act.put, List.setIfInBounds_toArray, List.set_cons_zero, List.set_cons_succ, i64_w, i32_w]
        rfl
       refine pure_ (i := 9) (N := some 76) (v := ?_) (a' := ?_) #[true, true, true, true, true, false, false, false, false, true, false, false, false] rfl rfl (any_of HT_.out (by kernel_rfl)) (fun _ _ _ h => h) (Or.inl ⟨by rfl, ?_⟩) ?_ ?_
       rotate_left
       ·intro w'
        go_simp
        with_reducible rfl
       rotate_left
       ·simp only [Act.put, List.setIfInBounds_toArray, List.set_cons_zero, List.set_cons_succ, i64_w, i32_w]
        rfl
       refine take_ (i := 10) (N := some 77) (v := ?_) (a' := ?_) #[true, true, true, true, true, false, false, false, false, true, true, false, false] rfl rfl (take_ofW HT_.out HW_.out (by kernel_rfl)) (fun _ _ _ h => h) (Or.inl ⟨by rfl, ?_⟩) hHeld ?_ ?_
       rotate_left
       ·rintro w' ⟨_, sc_⟩
        go_simp
        with_reducible rfl
       rotate_left
       ·simp only [Act.put, List.setIfInBounds_toArray, List.set_cons_zero, List.set_cons_succ, i64_w, i32_w]
        rfl
       refine take_ (i := 5) (N := some 72) (v := ?_) (a' := ?_) #[true, true, true, true, true, true, false, false, false, true, true, false, false] rfl rfl (take_ofW HT_.out HW_.out (by kernel_rfl)) (fun _ _ _ h => h) (Or.inl ⟨by rfl, ?_⟩) hHeld ?_ ?_
       rotate_left
       ·rintro w' ⟨⟨s0, s1, s2, s3, s4, s5, s6, s7, s8⟩, sc_⟩
        go_simp
        with_reducible rfl
       rotate_left
       ·simp only [Act.put, List.setIfInBounds_toArray, List.set_cons_zero, List.set_cons_succ, i64_w, i32_w]
        rfl
       refine take_ (i := 6) (N := some 73) (v := ?_) (a' := ?_) #[true, true, true, true, true, true, true, false, false, true, true, false, false] rfl rfl (take_ofW HT_.out HW_.out (by kernel_rfl)) (fun _ _ _ h => h) (Or.inl ⟨by rfl, ?_⟩) hHeld ?_ ?_
       rotate_left
       ·rintro w' ⟨⟨s0, s1, s2, s3, s4, s5, s6, s7, s8⟩, sc_⟩
        go_simp
        with_reducible rfl
       rotate_left
       ·simp only [Act.put, List.setIfInBounds_toArray, List.set_cons_zero, List.set_cons_succ, i64_w, i32_w]
        rfl
       refine one_ (i := 7) (N := some 74) #[true, true, true, true, true, true, true, true, false, true, true, false, false] rfl rfl (one_of HT_.out (by kernel_rfl)) (by decide) (fun K hK => ?_)
       refine goes_ Try.func38 (by kernel_rfl) rfl #[.agg #[.int .i64 a0_0, .int .i64 a0_1, .int .i64 a0_2, .slice A0_3 l0_3.length c0_3, .int .i64 a0_4, .int .i64 a0_5, .int .i64 a0_6], .agg #[.slice Ao95 x317000_12.length co95, .int .i64 x317001_12]] (by rfl) rfl rfl ar_ ?_
       with_reducible refine (basculeref03_AnswerBytes.calls kj12 a0_0 a0_1 a0_2 _ _ l0_3 a0_4 a0_5 a0_6 _ _ x317000_12 x317001_12 t336 _ ?side1 ?side2 ?side3 ?side4 A93.out).mono ?_
       (case side1 => exact sc_ (Kd.C_below HR0_3.out HB.out))
       (case side2 => exact HC0_3.out)
       (case side3 => exact sc_ (Kd.R_reads' HO_317000.out).2.2)
       (case side4 => exact (Kd.R_reads' HO_317000.out).2.1)
       rintro e w98 ⟨v337, rfl, ho0, hb⟩
       refine ⟨_, rfl, ?_⟩
       have n0_ := Aside0.mk (Kd.R_below (kr_ HO_317000) hb)
       have n1_ := Aside0.mk (Kd.R_lower ho0 (below_size (bl3_ HB GE314 GE315 GE316)))
       have n2_ := Aside0.mk (blk_below (g := gb314) (bk_ BK314) hb)
       have n3_ := Aside0.mk (blk_below (g := gb315) (bk_ BK315) hb)
       have n4_ := Aside0.mk (blk_below (g := gb316) (bk_ BK316) hb)
       have n5_ := Aside0.mk (below_step (bl3_ HB GE314 GE315 GE316) hb)
       clear HO_317000
       clear BK314
       clear BK315
       clear BK316
       clear HB
       have HO_317000 := n0_
       have HO338 := n1_
       have BK314 := n2_
       have BK315 := n3_
       have BK316 := n4_
       have HB := n5_
       clear n0_ n1_ n2_ n3_ n4_ n5_
       (try clear hb)
       (try clear hb2)
       (try clear hk)
       (try clear hi)
       (try clear ho0)
       skip
       refine hK.out _ _ ⟨⟨(blk_cell BK314.out 0).trans rfl, (blk_cell BK314.out 1).trans rfl, (blk_cell BK314.out 2).trans rfl, (blk_cell BK314.out 3).trans rfl, (blk_cell BK314.out 4).trans rfl, (blk_cell BK314.out 5).trans rfl, (blk_cell BK314.out 6).trans rfl, (blk_cell BK316.out 0).trans rfl, (blk_cell BK316.out 1).trans rfl⟩, (string_of_reads (P := Try.prog) (c := c1) Try.underlying58 Try.underlying5 Try.underlying9 (Kd.reads_of_C (Kd.C_below HR1.out (by repeat (first | exact HB.out | apply below_alloc | apply pw_below_drewN | apply below_drew1 | apply below_drew)))))⟩ (fun hHeld => ?_)
       clear hK K
       refine norm_ (a' := ?_) ?_ ?_
       rotate_left
       ·show Act.put _ (some 74) _ = _
        simp only [Act.put, List.setIfInBounds_toArray, List.set_cons_zero, List.set_cons_succ, i64_w, i32_w]
        rfl
       refine one_ (i := 8) (N := some 75) #[true, true, true, true, true, true, true, true, true, true, true, false, false] rfl rfl (one_of HT_.out (by kernel_rfl)) (by decide) (fun K hK => ?_)
       have hcv99 := own_string (P := Try.prog) Try.underlying58 Try.underlying5 Try.underlying9 (Kd.own_of_R HO338.out)
       refine value_ (w1 := ?_) (v := ?_) (by rfl) rfl ?_ ?_
       rotate_left 2
       ·go_simp
        constructor
        ·rfl
        ·rfl
       clear hcv99
       refine hK.out _ _ ⟨⟨(blk_cell BK314.out 0).trans rfl, (blk_cell BK314.out 1).trans rfl, (blk_cell BK314.out 2).trans rfl, (blk_cell BK314.out 3).trans rfl, (blk_cell BK314.out 4).trans rfl, (blk_cell BK314.out 5).trans rfl, (blk_cell BK314.out 6).trans rfl, (blk_cell BK316.out 0).trans rfl, (blk_cell BK316.out 1).trans rfl⟩, (string_of_reads (P := Try.prog) (c := c1) Try.underlying58 Try.underlying5 Try.underlying9 (Kd.reads_of_C (Kd.C_below HR1.out (by repeat (first | exact HB.out | apply below_alloc | apply pw_below_drewN | apply below_drew1 | apply below_drew)))))⟩ (fun hHeld => ?_)
       clear hK K
       refine norm_ (a' := ?_) ?_ ?_
       rotate_left
       ·show Act.put _ (some 75) _ = _
        simp only [Act.put, List.setIfInBounds_toArray, List.set_cons_zero, List.set_cons_succ, i64_w, i32_w]
        rfl
       refine pure_ (i := 11) (N := some 78) (v := ?_) (a' := ?_) #[true, true, true, true, true, true, true, true, true, true, true, true, false] rfl rfl (any_of HT_.out (by kernel_rfl)) (fun _ _ _ h => h) (Or.inl ⟨by rfl, ?_⟩) ?_ ?_
       rotate_left
       ·intro w'
        go_simp
        with_reducible rfl
       rotate_left
       ·simp only [Act.put, List.setIfInBounds_toArray, List.set_cons_zero, List.set_cons_succ, i64_w, i32_w]
        rfl
       refine pure_ (i := 12) (N := some 79) (v := ?_) (a' := ?_) #[true, true, true, true, true, true, true, true, true, true, true, true, true] rfl rfl (any_of HT_.out (by kernel_rfl)) (fun _ _ _ h => h) (Or.inl ⟨by rfl, ?_⟩) ?_ ?_
       rotate_left
       ·intro w'
        go_simp
        with_reducible rfl
       rotate_left
       ·simp only [Act.put, List.setIfInBounds_toArray, List.set_cons_zero, List.set_cons_succ, i64_w, i32_w]
        rfl
       refine done_ (done_of HT_.out (by kernel_rfl)) ?_
       have hnb102 := NB316_314.out
       have hnc102 := NB314_316.out
       have hnb103 := NB316_315.out
       have hnc103 := NB315_316.out
       refine cz2_ BK316.out ?_; intro hcz104_0 hcz104_1 hfz104_0 hfz104_1
       have hnb105 := NB315_314.out
       have hnc105 := NB314_315.out
       refine cz2_ BK315.out ?_; intro hcz106_0 hcz106_1 hfz106_0 hfz106_1
       try go_wp2
       refine bodyPost_ret (results_ct rfl _ _ gb315 30 #[.slice Ao95 x317000_12.length co95, .int .i64 x317001_12] (0, 0) _ rfl (by (with_reducible repeat (first | refine blk_drewN ?_ _ | refine blk_drew ?_ | refine blk_alloc ?_ _)); refine blk_put (cs := #[.slice Ao95 x317000_12.length co95, .int .i64 x316001_12]) ?_ 1 _ rfl; (with_reducible repeat (first | refine blk_drewN ?_ _ | refine blk_drew ?_ | refine blk_alloc ?_ _)); refine blk_put (cs := #[.slice none 0 0, .int .i64 x316001_12]) ?_ 0 _ rfl; (with_reducible repeat (first | refine blk_drewN ?_ _ | refine blk_drew ?_ | refine blk_alloc ?_ _)); exact BK315.out) Try.underlying30 rfl (by kernel_rfl)) rfl ?_
       exact ⟨_, er_, by (with_reducible repeat (first | apply Kd.R_alloc | apply Kd.R_drewN | apply Kd.R_drew)); exact Kd.R_mono (Kd.R_far (p := ⟨gb315, 1, none⟩) (Kd.R_far (p := ⟨gb315, 0, none⟩) (Kd.R_types HO_317000.out BK315.out (by decide)) (fun _ hk => hk.2) (.slice Ao95 x317000_12.length co95)) (fun _ hk => hk.2) (.int .i64 x317001_12)) (fun _ hk => trivial), bl3_ HB GE314 GE315 GE316⟩
      ·rw [if_neg c94] at H
       have c94b0 : ((strOfNums t336).toList == (strOfNums l1).toList) = false := beq_eq_false_iff_ne.mpr c94
       have c94b1 : ((strOfNums t336).toList != (strOfNums l1).toList) = true := bne_iff_ne.mpr c94
       simp only [Option.some.injEq, Prod.mk.injEq] at H
       obtain ⟨rfl, rfl, rfl⟩ := H
       obtain ⟨Ao107, co107, eo107⟩ := Kd.R_slice HO_317000.out
       subst eo107
       try go_wp2
       have n0_ := Aside0.mk (Kd.R_drew HO_317000.out)
       have n1_ := Aside0.mk (blk_drew BK314.out)
       have n2_ := Aside0.mk (blk_drew BK315.out)
       have n3_ := Aside0.mk (blk_drew BK316.out)
       have n4_ := Aside0.mk (below_drew1 HB.out)
       clear HO_317000
       clear BK314
       clear BK315
       clear BK316
       clear HB
       have HO_317000 := n0_
       have BK314 := n1_
       have BK315 := n2_
       have BK316 := n3_
       have HB := n4_
       clear n0_ n1_ n2_ n3_ n4_
       refine start_ (n := 13) (S := fun w' => (w'.cell? ⟨gb314, 0, none⟩ = some (.int .i64 a0_0) ∧ w'.cell? ⟨gb314, 1, none⟩ = some (.int .i64 a0_1) ∧ w'.cell? ⟨gb314, 2, none⟩ = some (.int .i64 a0_2) ∧ w'.cell? ⟨gb314, 3, none⟩ = some (.slice A0_3 l0_3.length c0_3) ∧ w'.cell? ⟨gb314, 4, none⟩ = some (.int .i64 a0_4) ∧ w'.cell? ⟨gb314, 5, none⟩ = some (.int .i64 a0_5) ∧ w'.cell? ⟨gb314, 6, none⟩ = some (.int .i64 a0_6) ∧ w'.cell? ⟨gb316, 0, none⟩ = some (.slice Ao107 x317000_12.length co107) ∧ w'.cell? ⟨gb316, 1, none⟩ = some (.int .i64 x317001_12)) ∧ Sem.run Try.prog (convert 58 9 (.slice (some ad317) l1.length c1)) w' = .ok (.string (strOfNums l1)) w') (ds := []) #[false, false, false, false, false, false, false, false, false, false, false, false, false] (by kernel_rfl) rfl rfl ⟨⟨(blk_cell BK314.out 0).trans rfl, (blk_cell BK314.out 1).trans rfl, (blk_cell BK314.out 2).trans rfl, (blk_cell BK314.out 3).trans rfl, (blk_cell BK314.out 4).trans rfl, (blk_cell BK314.out 5).trans rfl, (blk_cell BK314.out 6).trans rfl, (blk_cell BK316.out 0).trans rfl, (blk_cell BK316.out 1).trans rfl⟩, (string_of_reads (P := Try.prog) (c := c1) Try.underlying58 Try.underlying5 Try.underlying9 (Kd.reads_of_C (Kd.C_below HR1.out (by repeat (first | exact HB.out | apply below_alloc | apply pw_below_drewN | apply below_drew1 | apply below_drew)))))⟩ (fun hHeld => ?_); refine with_tabW basculeref03_AnswerParse.tab14 basculeref03_AnswerParse.bits14 (fun HT_ HW_ => ?_)
       generalize wc.drew = w108 at HO_317000 BK314 BK315 BK316 HB hHeld ⊢
       refine take_ (i := 0) (N := some 67) (v := ?_) (a' := ?_) #[true, false, false, false, false, false, false, false, false, false, false, false, false] rfl rfl (take_ofW HT_.out HW_.out (by kernel_rfl)) (fun _ _ _ h => h) (Or.inl ⟨by rfl, ?_⟩) hHeld ?_ ?_
       rotate_left
       ·rintro w' ⟨⟨s0, s1, s2, s3, s4, s5, s6, s7, s8⟩, sc_⟩
        go_simp
        with_reducible rfl
       rotate_left
       ·simp only [Act.put, List.setIfInBounds_toArray, List.set_cons_zero, List.set_cons_succ, i64_w, i32_w]
        rfl
       refine take_ (i := 1) (N := some 68) (v := ?_) (a' := ?_) #[true, true, false, false, false, false, false, false, false, false, false, false, false] rfl rfl (take_ofW HT_.out HW_.out (by kernel_rfl)) (fun _ _ _ h => h) (Or.inl ⟨by rfl, ?_⟩) hHeld ?_ ?_
       rotate_left
       ·rintro w' ⟨⟨s0, s1, s2, s3, s4, s5, s6, s7, s8⟩, sc_⟩
        go_simp
        with_reducible rfl
       rotate_left
       ·simp only [Act.put, List.setIfInBounds_toArray, List.set_cons_zero, List.set_cons_succ, i64_w, i32_w]
        rfl
       refine one_ (i := 2) (N := some 69) #[true, true, true, false, false, false, false, false, false, false, false, false, false] rfl rfl (one_of HT_.out (by kernel_rfl)) (by decide) (fun K hK => ?_)
       refine goes_ Try.func37 (by kernel_rfl) rfl #[.agg #[.int .i64 a0_0, .int .i64 a0_1, .int .i64 a0_2, .slice A0_3 l0_3.length c0_3, .int .i64 a0_4, .int .i64 a0_5, .int .i64 a0_6], .agg #[.slice Ao107 x317000_12.length co107, .int .i64 x317001_12]] (by rfl) rfl rfl ar_ ?_
       with_reducible refine (basculeref03_AnswerMay.calls kj12 a0_0 a0_1 a0_2 _ _ l0_3 a0_4 a0_5 a0_6 _ _ x317000_12 x317001_12 true _ ?side1 ?side2 ?side3 ?side4 A91.out).mono ?_
       (case side1 => exact sc_ (Kd.C_below HR0_3.out HB.out))
       (case side2 => exact HC0_3.out)
       (case side3 => exact sc_ (Kd.R_reads' HO_317000.out).2.2)
       (case side4 => exact (Kd.R_reads' HO_317000.out).2.1)
       rintro e w109 ⟨rfl, hb⟩
       refine ⟨_, rfl, ?_⟩
       have n0_ := Aside0.mk (Kd.R_below (kr_ HO_317000) hb)
       have n1_ := Aside0.mk (blk_below (g := gb314) (bk_ BK314) hb)
       have n2_ := Aside0.mk (blk_below (g := gb315) (bk_ BK315) hb)
       have n3_ := Aside0.mk (blk_below (g := gb316) (bk_ BK316) hb)
       have n4_ := Aside0.mk (below_step (bl3_ HB GE314 GE315 GE316) hb)
       clear HO_317000
       clear BK314
       clear BK315
       clear BK316
       clear HB
       have HO_317000 := n0_
       have BK314 := n1_
       have BK315 := n2_
       have BK316 := n3_
       have HB := n4_
       clear n0_ n1_ n2_ n3_ n4_
       (try clear hb)
       (try clear hb2)
       (try clear hk)
       (try clear hi)
       refine hK.out _ _ ⟨⟨(blk_cell BK314.out 0).trans rfl, (blk_cell BK314.out 1).trans rfl, (blk_cell BK314.out 2).trans rfl, (blk_cell BK314.out 3).trans rfl, (blk_cell BK314.out 4).trans rfl, (blk_cell BK314.out 5).trans rfl, (blk_cell BK314.out 6).trans rfl, (blk_cell BK316.out 0).trans rfl, (blk_cell BK316.out 1).trans rfl⟩, (string_of_reads (P := Try.prog) (c := c1) Try.underlying58 Try.underlying5 Try.underlying9 (Kd.reads_of_C (Kd.C_below HR1.out (by repeat (first | exact HB.out | apply below_alloc | apply pw_below_drewN | apply below_drew1 | apply below_drew)))))⟩ (fun hHeld => ?_)
       clear hK K
       refine norm_ (a' := ?_) ?_ ?_
       rotate_left
       ·show Act.put _ (some 69) _ = _
        simp only [Act.put, List.setIfInBounds_toArray, List.set_cons_zero, List.set_cons_succ, i64_w, i32_w]
        rfl
       refine pure_ (i := 3) (N := some 70) (v := ?_) (a' := ?_) #[true, true, true, true, false, false, false, false, false, false, false, false, false] rfl rfl (any_of HT_.out (by kernel_rfl)) (fun _ _ _ h => h) (Or.inl ⟨by rfl, ?_⟩) ?_ ?_
       rotate_left
       ·intro w'
        go_simp
        with_reducible rfl
       rotate_left
       ·simp only [Act.put, List.setIfInBounds_toArray, List.set_cons_zero, List.set_cons_succ, i64_w, i32_w]
        rfl
       refine pure_ (i := 4) (N := some 71) (v := ?_) (a' := ?_) #[true, true, true, true, true, false, false, false, false, false, false, false, false] rfl rfl (any_of HT_.out (by kernel_rfl)) (fun _ _ _ h => h) (Or.inl ⟨by rfl, ?_⟩) ?_ ?_
       rotate_left
       ·intro w'
        go_simp
        with_reducible rfl
       rotate_left
       ·simp only [Act.put, List.setIfInBounds_toArray, List.set_cons_zero, List.set_cons_succ, i64_w, i32_w]
        rfl
       refine pure_ (i := 9) (N := some 76) (v := ?_) (a' := ?_) #[true, true, true, true, true, false, false, false, false, true, false, false, false] rfl rfl (any_of HT_.out (by kernel_rfl)) (fun _ _ _ h => h) (Or.inl ⟨by rfl, ?_⟩) ?_ ?_
       rotate_left
       ·intro w'
        go_simp
        with_reducible rfl
       rotate_left
       ·simp only [Act.put, List.setIfInBounds_toArray, List.set_cons_zero, List.set_cons_succ, i64_w, i32_w]
        rfl
       refine take_ (i := 10) (N := some 77) (v := ?_) (a' := ?_) #[true, true, true, true, true, false, false, false, false, true, true, false, false] rfl rfl (take_ofW HT_.out HW_.out (by kernel_rfl)) (fun _ _ _ h => h) (Or.inl ⟨by rfl, ?_⟩) hHeld ?_ ?_
       rotate_left
       ·rintro w' ⟨_, sc_⟩
        go_simp
        with_reducible rfl
       rotate_left
       ·simp only [Act.put, List.setIfInBounds_toArray, List.set_cons_zero, List.set_cons_succ, i64_w, i32_w]
        rfl
       refine take_ (i := 5) (N := some 72) (v := ?_) (a' := ?_) #[true, true, true, true, true, true, false, false, false, true, true, false, false] rfl rfl (take_ofW HT_.out HW_.out (by kernel_rfl)) (fun _ _ _ h => h) (Or.inl ⟨by rfl, ?_⟩) hHeld ?_ ?_
       rotate_left
       ·rintro w' ⟨⟨s0, s1, s2, s3, s4, s5, s6, s7, s8⟩, sc_⟩
        go_simp
        with_reducible rfl
       rotate_left
       ·simp only [Act.put, List.setIfInBounds_toArray, List.set_cons_zero, List.set_cons_succ, i64_w, i32_w]
        rfl
       refine take_ (i := 6) (N := some 73) (v := ?_) (a' := ?_) #[true, true, true, true, true, true, true, false, false, true, true, false, false] rfl rfl (take_ofW HT_.out HW_.out (by kernel_rfl)) (fun _ _ _ h => h) (Or.inl ⟨by rfl, ?_⟩) hHeld ?_ ?_
       rotate_left
       ·rintro w' ⟨⟨s0, s1, s2, s3, s4, s5, s6, s7, s8⟩, sc_⟩
        go_simp
        with_reducible rfl
       rotate_left
       ·simp only [Act.put, List.setIfInBounds_toArray, List.set_cons_zero, List.set_cons_succ, i64_w, i32_w]
        rfl
       refine one_ (i := 7) (N := some 74) #[true, true, true, true, true, true, true, true, false, true, true, false, false] rfl rfl (one_of HT_.out (by kernel_rfl)) (by decide) (fun K hK => ?_)
       refine goes_ Try.func38 (by kernel_rfl) rfl #[.agg #[.int .i64 a0_0, .int .i64 a0_1, .int .i64 a0_2, .slice A0_3 l0_3.length c0_3, .int .i64 a0_4, .int .i64 a0_5, .int .i64 a0_6], .agg #[.slice Ao107 x317000_12.length co107, .int .i64 x317001_12]] (by rfl) rfl rfl ar_ ?_
       with_reducible refine (basculeref03_AnswerBytes.calls kj12 a0_0 a0_1 a0_2 _ _ l0_3 a0_4 a0_5 a0_6 _ _ x317000_12 x317001_12 t336 _ ?side1 ?side2 ?side3 ?side4 A93.out).mono ?_
       (case side1 => exact sc_ (Kd.C_below HR0_3.out HB.out))
       (case side2 => exact HC0_3.out)
       (case side3 => exact sc_ (Kd.R_reads' HO_317000.out).2.2)
       (case side4 => exact (Kd.R_reads' HO_317000.out).2.1)
       rintro e w110 ⟨v337, rfl, ho0, hb⟩
       refine ⟨_, rfl, ?_⟩
       have n0_ := Aside0.mk (Kd.R_below (kr_ HO_317000) hb)
       have n1_ := Aside0.mk (Kd.R_lower ho0 (below_size (bl3_ HB GE314 GE315 GE316)))
       have n2_ := Aside0.mk (blk_below (g := gb314) (bk_ BK314) hb)
       have n3_ := Aside0.mk (blk_below (g := gb315) (bk_ BK315) hb)
       have n4_ := Aside0.mk (blk_below (g := gb316) (bk_ BK316) hb)
       have n5_ := Aside0.mk (below_step (bl3_ HB GE314 GE315 GE316) hb)
       clear HO_317000
       clear BK314
       clear BK315
       clear BK316
       clear HB
       have HO_317000 := n0_
       have HO338 := n1_
       have BK314 := n2_
       have BK315 := n3_
       have BK316 := n4_
       have HB := n5_
       clear n0_ n1_ n2_ n3_ n4_ n5_
       (try clear hb)
       (try clear hb2)
       (try clear hk)
       (try clear hi)
       (try clear ho0)
       skip
       refine hK.out _ _ ⟨⟨(blk_cell BK314.out 0).trans rfl, (blk_cell BK314.out 1).trans rfl, (blk_cell BK314.out 2).trans rfl, (blk_cell BK314.out 3).trans rfl, (blk_cell BK314.out 4).trans rfl, (blk_cell BK314.out 5).trans rfl, (blk_cell BK314.out 6).trans rfl, (blk_cell BK316.out 0).trans rfl, (blk_cell BK316.out 1).trans rfl⟩, (string_of_reads (P := Try.prog) (c := c1) Try.underlying58 Try.underlying5 Try.underlying9 (Kd.reads_of_C (Kd.C_below HR1.out (by repeat (first | exact HB.out | apply below_alloc | apply pw_below_drewN | apply below_drew1 | apply below_drew)))))⟩ (fun hHeld => ?_)
       clear hK K
       refine norm_ (a' := ?_) ?_ ?_
       rotate_left
       ·show Act.put _ (some 74) _ = _
        simp only [Act.put, List.setIfInBounds_toArray, List.set_cons_zero, List.set_cons_succ, i64_w, i32_w]
        rfl
       refine one_ (i := 8) (N := some 75) #[true, true, true, true, true, true, true, true, true, true, true, false, false] rfl rfl (one_of HT_.out (by kernel_rfl)) (by decide) (fun K hK => ?_)
       have hcv111 := own_string (P := Try.prog) Try.underlying58 Try.underlying5 Try.underlying9 (Kd.own_of_R HO338.out)
       refine value_ (w1 := ?_) (v := ?_) (by rfl) rfl ?_ ?_
       rotate_left 2
       ·go_simp
        constructor
        ·rfl
        ·rfl
       clear hcv111
       refine hK.out _ _ ⟨⟨(blk_cell BK314.out 0).trans rfl, (blk_cell BK314.out 1).trans rfl, (blk_cell BK314.out 2).trans rfl, (blk_cell BK314.out 3).trans rfl, (blk_cell BK314.out 4).trans rfl, (blk_cell BK314.out 5).trans rfl, (blk_cell BK314.out 6).trans rfl, (blk_cell BK316.out 0).trans rfl, (blk_cell BK316.out 1).trans rfl⟩, (string_of_reads (P := Try.prog) (c := c1) Try.underlying58 Try.underlying5 Try.underlying9 (Kd.reads_of_C (Kd.C_below HR1.out (by repeat (first | exact HB.out | apply below_alloc | apply pw_below_drewN | apply below_drew1 | apply below_drew)))))⟩ (fun hHeld => ?_)
       clear hK K
       refine norm_ (a' := ?_) ?_ ?_
       rotate_left
       ·show Act.put _ (some 75) _ = _
        simp only [Act.put, List.setIfInBounds_toArray, List.set_cons_zero, List.set_cons_succ, i64_w, i32_w]
        rfl
       refine pure_ (i := 11) (N := some 78) (v := ?_) (a' := ?_) #[true, true, true, true, true, true, true, true, true, true, true, true, false] rfl rfl (any_of HT_.out (by kernel_rfl)) (fun _ _ _ h => h) (Or.inl ⟨by rfl, ?_⟩) ?_ ?_
       rotate_left
       ·intro w'
        go_simp
        with_reducible rfl
       rotate_left
       ·simp only [Act.put, List.setIfInBounds_toArray, List.set_cons_zero, List.set_cons_succ, i64_w, i32_w]
        rfl
       refine pure_ (i := 12) (N := some 79) (v := ?_) (a' := ?_) #[true, true, true, true, true, true, true, true, true, true, true, true, true] rfl rfl (any_of HT_.out (by kernel_rfl)) (fun _ _ _ h => h) (Or.inl ⟨by rfl, ?_⟩) ?_ ?_
       rotate_left
       ·intro w'
        go_simp
        with_reducible rfl
       rotate_left
       ·simp only [Act.put, List.setIfInBounds_toArray, List.set_cons_zero, List.set_cons_succ, i64_w, i32_w]
        rfl
       refine done_ (done_of HT_.out (by kernel_rfl)) ?_
       have hnb114 := NB315_314.out
       have hnc114 := NB314_315.out
       have hnb115 := NB315_316.out
       have hnc115 := NB316_315.out
       refine cz2_ BK315.out ?_; intro hcz116_0 hcz116_1 hfz116_0 hfz116_1
       try go_wp2
       refine bodyPost_ret (results_ct rfl _ _ gb315 30 #[.slice none 0 0, .int .i64 0] (0, 0) _ rfl (by (with_reducible repeat (first | refine blk_drewN ?_ _ | refine blk_drew ?_ | refine blk_alloc ?_ _)); refine blk_put (cs := #[.slice none 0 0, .int .i64 x316001_12]) ?_ 1 _ rfl; (with_reducible repeat (first | refine blk_drewN ?_ _ | refine blk_drew ?_ | refine blk_alloc ?_ _)); refine blk_put (cs := #[.slice none 0 0, .int .i64 x316001_12]) ?_ 0 _ rfl; (with_reducible repeat (first | refine blk_drewN ?_ _ | refine blk_drew ?_ | refine blk_alloc ?_ _)); exact BK315.out) Try.underlying30 rfl (by kernel_rfl)) rfl ?_
       exact ⟨_, er_, by first | exact Kd.R_nil _ _ _ _ _ | exact Kd.N_nil _ _ _ _ _ | exact Kd.V_nil _ _ _ _ _ | exact Kd.Q_nil _ _ _ _ _ | exact Kd.S_nil _ _ _ _ _, bl3_ HB GE314 GE315 GE316⟩
     ·replace c92 := Bool.eq_false_iff.mpr c92
      subst c92
      have H1 : (some (([] : List Int), 0, false)) = some (r1, r2, r3) := by rw [if_neg (show ¬ (false = true) by decide)] at H; exact H
      clear H
      have H := H1
      clear H1
      simp only [Option.some.injEq, Prod.mk.injEq] at H
      obtain ⟨rfl, rfl, rfl⟩ := H
      try go_wp2
      have n0_ := Aside0.mk (Kd.R_drew HO_317000.out)
      have n1_ := Aside0.mk (blk_drew BK314.out)
      have n2_ := Aside0.mk (blk_drew BK315.out)
      have n3_ := Aside0.mk (blk_drew BK316.out)
      have n4_ := Aside0.mk (below_drew1 HB.out)
      clear HO_317000
      clear BK314
      clear BK315
      clear BK316
      clear HB
      have HO_317000 := n0_
      have BK314 := n1_
      have BK315 := n2_
      have BK316 := n3_
      have HB := n4_
      clear n0_ n1_ n2_ n3_ n4_
      obtain ⟨Ao118, co118, eo118⟩ := Kd.R_slice HO_317000.out
      (first | subst eo118 | (injection eo118 with f1_ f2_ f3_; have f4_ := f1_.symm; have f5_ := f3_.symm; clear f1_ f2_ f3_; subst f4_; subst f5_))
      refine start_ (n := 13) (S := fun w' => w'.cell? ⟨gb314, 0, none⟩ = some (.int .i64 a0_0) ∧ w'.cell? ⟨gb314, 1, none⟩ = some (.int .i64 a0_1) ∧ w'.cell? ⟨gb314, 2, none⟩ = some (.int .i64 a0_2) ∧ w'.cell? ⟨gb314, 3, none⟩ = some (.slice A0_3 l0_3.length c0_3) ∧ w'.cell? ⟨gb314, 4, none⟩ = some (.int .i64 a0_4) ∧ w'.cell? ⟨gb314, 5, none⟩ = some (.int .i64 a0_5) ∧ w'.cell? ⟨gb314, 6, none⟩ = some (.int .i64 a0_6) ∧ w'.cell? ⟨gb316, 0, none⟩ = some (.slice Ao118 x317000_12.length co118) ∧ w'.cell? ⟨gb316, 1, none⟩ = some (.int .i64 x317001_12)) (ds := []) #[false, false, false, false, false, false, false, false, false, false, false, false, false] (by kernel_rfl) rfl rfl ⟨(blk_cell BK314.out 0).trans rfl, (blk_cell BK314.out 1).trans rfl, (blk_cell BK314.out 2).trans rfl, (blk_cell BK314.out 3).trans rfl, (blk_cell BK314.out 4).trans rfl, (blk_cell BK314.out 5).trans rfl, (blk_cell BK314.out 6).trans rfl, (blk_cell BK316.out 0).trans rfl, (blk_cell BK316.out 1).trans rfl⟩ (fun hHeld => ?_); refine with_tabW basculeref03_AnswerParse.tab14 basculeref03_AnswerParse.bits14 (fun HT_ HW_ => ?_)
      generalize wc.drew = w117 at HO_317000 BK314 BK315 BK316 HB hHeld ⊢
      refine take_ (i := 0) (N := some 67) (v := ?_) (a' := ?_) #[true, false, false, false, false, false, false, false, false, false, false, false, false] rfl rfl (take_ofW HT_.out HW_.out (by kernel_rfl)) (fun _ _ _ h => h) (Or.inl ⟨by rfl, ?_⟩) hHeld ?_ ?_
      rotate_left
      ·rintro w' ⟨s0, s1, s2, s3, s4, s5, s6, s7, s8⟩
       go_simp
       with_reducible rfl
      rotate_left
      ·simp only [Act.put, List.setIfInBounds_toArray, List.set_cons_zero, List.set_cons_succ, i64_w, i32_w]
       rfl
      refine take_ (i := 1) (N := some 68) (v := ?_) (a' := ?_) #[true, true, false, false, false, false, false, false, false, false, false, false, false] rfl rfl (take_ofW HT_.out HW_.out (by kernel_rfl)) (fun _ _ _ h => h) (Or.inl ⟨by rfl, ?_⟩) hHeld ?_ ?_
      rotate_left
      ·rintro w' ⟨s0, s1, s2, s3, s4, s5, s6, s7, s8⟩
       go_simp
       with_reducible rfl
      rotate_left
      ·simp only [Act.put, List.setIfInBounds_toArray, List.set_cons_zero, List.set_cons_succ, i64_w, i32_w]
       rfl
      refine one_ (i := 2) (N := some 69) #[true, true, true, false, false, false, false, false, false, false, false, false, false] rfl rfl (one_of HT_.out (by kernel_rfl)) (by decide) (fun K hK => ?_)
      refine goes_ Try.func37 (by kernel_rfl) rfl #[.agg #[.int .i64 a0_0, .int .i64 a0_1, .int .i64 a0_2, .slice A0_3 l0_3.length c0_3, .int .i64 a0_4, .int .i64 a0_5, .int .i64 a0_6], .agg #[.slice Ao118 x317000_12.length co118, .int .i64 x317001_12]] (by rfl) rfl rfl ar_ ?_
      with_reducible refine (basculeref03_AnswerMay.calls kj12 a0_0 a0_1 a0_2 _ _ l0_3 a0_4 a0_5 a0_6 _ _ x317000_12 x317001_12 false _ ?side1 ?side2 ?side3 ?side4 A91.out).mono ?_
      (case side1 => exact sc_ (Kd.C_below HR0_3.out HB.out))
      (case side2 => exact HC0_3.out)
      (case side3 => exact sc_ (Kd.R_reads' HO_317000.out).2.2)
      (case side4 => exact (Kd.R_reads' HO_317000.out).2.1)
      rintro e w119 ⟨rfl, hb⟩
      refine ⟨_, rfl, ?_⟩
      have n0_ := Aside0.mk (Kd.R_below (kr_ HO_317000) hb)
      have n1_ := Aside0.mk (blk_below (g := gb314) (bk_ BK314) hb)
      have n2_ := Aside0.mk (blk_below (g := gb315) (bk_ BK315) hb)
      have n3_ := Aside0.mk (blk_below (g := gb316) (bk_ BK316) hb)
      have n4_ := Aside0.mk (below_step (bl3_ HB GE314 GE315 GE316) hb)
      clear HO_317000
      clear BK314
      clear BK315
      clear BK316
      clear HB
      have HO_317000 := n0_
      have BK314 := n1_
      have BK315 := n2_
      have BK316 := n3_
      have HB := n4_
      clear n0_ n1_ n2_ n3_ n4_
      (try clear hb)
      (try clear hb2)
      (try clear hk)
      (try clear hi)
      refine hK.out _ _ ⟨(blk_cell BK314.out 0).trans rfl, (blk_cell BK314.out 1).trans rfl, (blk_cell BK314.out 2).trans rfl, (blk_cell BK314.out 3).trans rfl, (blk_cell BK314.out 4).trans rfl, (blk_cell BK314.out 5).trans rfl, (blk_cell BK314.out 6).trans rfl, (blk_cell BK316.out 0).trans rfl, (blk_cell BK316.out 1).trans rfl⟩ (fun hHeld => ?_)
      clear hK K
      refine norm_ (a' := ?_) ?_ ?_
      rotate_left
      ·show Act.put _ (some 69) _ = _
       simp only [Act.put, List.setIfInBounds_toArray, List.set_cons_zero, List.set_cons_succ, i64_w, i32_w]
       rfl
      refine pure_ (i := 3) (N := some 70) (v := ?_) (a' := ?_) #[true, true, true, true, false, false, false, false, false, false, false, false, false] rfl rfl (any_of HT_.out (by kernel_rfl)) (fun _ _ _ h => h) (Or.inl ⟨by rfl, ?_⟩) ?_ ?_
      rotate_left
      ·intro w'
       go_simp
       with_reducible rfl
      rotate_left
      ·simp only [Act.put, List.setIfInBounds_toArray, List.set_cons_zero, List.set_cons_succ, i64_w, i32_w]
       rfl
      refine pure_ (i := 4) (N := some 71) (v := ?_) (a' := ?_) #[true, true, true, true, true, false, false, false, false, false, false, false, false] rfl rfl (any_of HT_.out (by kernel_rfl)) (fun _ _ _ h => h) (Or.inl ⟨by rfl, ?_⟩) ?_ ?_
      rotate_left
      ·intro w'
       go_simp
       with_reducible rfl
      rotate_left
      ·simp only [Act.put, List.setIfInBounds_toArray, List.set_cons_zero, List.set_cons_succ, i64_w, i32_w]
       rfl
      refine pure_ (i := 5) (N := some 72) (v := undef) (a' := ?_) #[true, true, true, true, true, true, false, false, false, false, false, false, false] rfl rfl (any_of HT_.out (by kernel_rfl)) (fun _ _ _ h => h) (Or.inr ⟨by rfl, rfl⟩) ?_ ?_
      rotate_left
      ·simp only [Act.put, List.setIfInBounds_toArray, List.set_cons_zero, List.set_cons_succ, i64_w, i32_w]
       rfl
      refine pure_ (i := 6) (N := some 73) (v := undef) (a' := ?_) #[true, true, true, true, true, true, true, false, false, false, false, false, false] rfl rfl (any_of HT_.out (by kernel_rfl)) (fun _ _ _ h => h) (Or.inr ⟨by rfl, rfl⟩) ?_ ?_
      rotate_left
      ·simp only [Act.put, List.setIfInBounds_toArray, List.set_cons_zero, List.set_cons_succ, i64_w, i32_w]
       rfl
      refine pure_ (i := 7) (N := some 74) (v := undef) (a' := ?_) #[true, true, true, true, true, true, true, true, false, false, false, false, false] rfl rfl (any_of HT_.out (by kernel_rfl)) (fun _ _ _ h => h) (Or.inr ⟨by rfl, rfl⟩) ?_ ?_
      rotate_left
      ·simp only [Act.put, List.setIfInBounds_toArray, List.set_cons_zero, List.set_cons_succ, i64_w, i32_w]
       rfl
      refine pure_ (i := 8) (N := some 75) (v := undef) (a' := ?_) #[true, true, true, true, true, true, true, true, true, false, false, false, false] rfl rfl (any_of HT_.out (by kernel_rfl)) (fun _ _ _ h => h) (Or.inr ⟨by rfl, rfl⟩) ?_ ?_
      rotate_left
      ·simp only [Act.put, List.setIfInBounds_toArray, List.set_cons_zero, List.set_cons_succ, i64_w, i32_w]
       rfl
      refine pure_ (i := 9) (N := some 76) (v := undef) (a' := ?_) #[true, true, true, true, true, true, true, true, true, true, false, false, false] rfl rfl (any_of HT_.out (by kernel_rfl)) (fun _ _ _ h => h) (Or.inr ⟨by rfl, rfl⟩) ?_ ?_
      rotate_left
      ·simp only [Act.put, List.setIfInBounds_toArray, List.set_cons_zero, List.set_cons_succ, i64_w, i32_w]
       rfl
      refine pure_ (i := 10) (N := some 77) (v := undef) (a' := ?_) #[true, true, true, true, true, true, true, true, true, true, true, false, false] rfl rfl (any_of HT_.out (by kernel_rfl)) (fun _ _ _ h => h) (Or.inr ⟨by rfl, rfl⟩) ?_ ?_
      rotate_left
      ·simp only [Act.put, List.setIfInBounds_toArray, List.set_cons_zero, List.set_cons_succ, i64_w, i32_w]
       rfl
      refine pure_ (i := 11) (N := some 78) (v := undef) (a' := ?_) #[true, true, true, true, true, true, true, true, true, true, true, true, false] rfl rfl (any_of HT_.out (by kernel_rfl)) (fun _ _ _ h => h) (Or.inr ⟨by rfl, rfl⟩) ?_ ?_
      rotate_left
      ·simp only [Act.put, List.setIfInBounds_toArray, List.set_cons_zero, List.set_cons_succ, i64_w, i32_w]
       rfl
      refine pure_ (i := 12) (N := some 79) (v := ?_) (a' := ?_) #[true, true, true, true, true, true, true, true, true, true, true, true, true] rfl rfl (any_of HT_.out (by kernel_rfl)) (fun _ _ _ h => h) (Or.inl ⟨by rfl, ?_⟩) ?_ ?_
      rotate_left
      ·intro w'
       go_simp
       with_reducible rfl
      rotate_left
      ·simp only [Act.put, List.setIfInBounds_toArray, List.set_cons_zero, List.set_cons_succ, i64_w, i32_w]
       rfl
      refine done_ (done_of HT_.out (by kernel_rfl)) ?_
      have hnb120 := NB315_314.out
      have hnc120 := NB314_315.out
      have hnb121 := NB315_316.out
      have hnc121 := NB316_315.out
      refine cz2_ BK315.out ?_; intro hcz122_0 hcz122_1 hfz122_0 hfz122_1
      try go_wp2
      refine bodyPost_ret (results_ct rfl _ _ gb315 30 #[.slice none 0 0, .int .i64 0] (0, 0) _ rfl (by (with_reducible repeat (first | refine blk_drewN ?_ _ | refine blk_drew ?_ | refine blk_alloc ?_ _)); refine blk_put (cs := #[.slice none 0 0, .int .i64 x316001_12]) ?_ 1 _ rfl; (with_reducible repeat (first | refine blk_drewN ?_ _ | refine blk_drew ?_ | refine blk_alloc ?_ _)); refine blk_put (cs := #[.slice none 0 0, .int .i64 x316001_12]) ?_ 0 _ rfl; (with_reducible repeat (first | refine blk_drewN ?_ _ | refine blk_drew ?_ | refine blk_alloc ?_ _)); exact BK315.out) Try.underlying30 rfl (by kernel_rfl)) rfl ?_
      exact ⟨_, er_, by first | exact Kd.R_nil _ _ _ _ _ | exact Kd.N_nil _ _ _ _ _ | exact Kd.V_nil _ _ _ _ _ | exact Kd.Q_nil _ _ _ _ _ | exact Kd.S_nil _ _ _ _ _, bl3_ HB GE314 GE315 GE316⟩
  ·rw [if_neg c12] at H
   exact absurd H (by simp)
end Go.Proofs.Ytocicifgglkaeaa.PR
end

section
namespace Go.Proofs.Ytocicifgglkaeaa.Core
open Go.RowKit Go.Proofs.YtocicifgglkaeaaW.PrintWords Go.Proofs.YtocicifgglkaeaaW.PrintLast Go.Proofs.YtocicifgglkaeaaW.PrintMore
set_option linter.unusedVariables false
set_option linter.unusedSimpArgs false
structure Ext (M : Nat → Prop) (w w' : World) : Prop where
 os : w'.os = w.os
 tape : w'.tape = w.tape
 output : w'.output = w.output
 size : w.heap.size ≤ w'.heap.size
 block : ∀ k, k < w.heap.size → ¬ M k → w'.heap[k]? = w.heap[k]?
structure Ever (M : Nat → Prop) (w : World) (P : World → Prop) : Prop where
 at_ : ∀ w', Ext M w w' → P w'
section
variable {M M' : Nat → Prop} {w w1 w2 W : World} {P Q : World → Prop}
theorem Ext.refl (M : Nat → Prop) (w : World) : Ext M w w := ⟨rfl, rfl, rfl, Nat.le_refl _, fun _ _ _ => rfl⟩
theorem Ext.trans (h : Ext M w w1) (k : Ext M w1 w2) : Ext M w w2 :=
 ⟨k.os.trans h.os, k.tape.trans h.tape, k.output.trans h.output, Nat.le_trans h.size k.size, fun i hi hm => (k.block i (Nat.lt_of_lt_of_le hi h.size) hm).trans (h.block i hi hm)⟩
theorem Ext.mono (h : Ext M w w1) (hm : ∀ k, k < w.heap.size → M k → M' k) : Ext M' w w1 := ⟨h.os, h.tape, h.output, h.size, fun i hi hn => h.block i hi (fun a => hn (hm i hi a))⟩
theorem Ext.of_below (h : Below w.heap.size w w1) : Ext M w w1 := ⟨h.os, h.tape, h.output, h.size, fun i hi _ => h.block i hi⟩
theorem Ext.then_below (h : Ext M w w1) (k : Below w1.heap.size w1 w2) : Ext M w w2 := h.trans (.of_below k)
theorem Ext.alloc (h : Ext M w W) (o : Obj) : Ext M w (W.alloc o) := h.then_below (below_alloc (Below.refl _ _) o)
theorem Ext.below (h : Ext M w W) (hM : ∀ k, M k → w.heap.size ≤ k) : Below w.heap.size w W := ⟨h.os, h.tape, h.output, h.size, fun k hk => h.block k hk (fun a => by have := hM k a; omega)⟩
theorem Ever.imp (h : Ever M w P) (k : ∀ w, P w → Q w) : Ever M w Q := ⟨fun w1 h1 => k _ (h.at_ w1 h1)⟩
theorem Ever.old (h : P w) (hb : ∀ w1, Below w.heap.size w w1 → P w1) (hM : ∀ k, M k → w.heap.size ≤ k) : Ever M w P := ⟨fun w1 h1 => hb w1 (h1.below hM)⟩
theorem Ever.C {α : Type} {d : Kd α} {A : Option Addr} {n : Nat} {xs : List α} (h : d.C w A n xs) (hM : ∀ k, M k → w.heap.size ≤ k) : Ever M w (fun W => d.C W A n xs) := .old h (fun _ hb => Kd.C_below h hb) hM
end
section
variable {α : Type} {enc : α → Value} {h1 : ∀ x, (enc x).oneCell' = true} {M : Nat → Prop} {w : World} {A : Option Addr}
theorem Ever.take {d : Kd α} {xs : List α} (h : Ever M w (fun W => d.C W A xs.length xs)) {m : Nat} (hm : m ≤ xs.length) : Ever M w (fun W => d.C W A (xs.take m).length (xs.take m)) := h.imp (fun _ k => Kd.C_take k hm)
end
def Mv (M : Nat → Prop) (v : Value) (k : Nat) : Prop := M k ∨ some k = v.ownBlock
def OwnE {α : Type} (d : Kd α) (M : Nat → Prop) (e : TypeId) (base : Nat) (W : World) (v : Value) (xs : List α) : Prop :=
 ∃ inner, W.ownsRow base e d.sz v xs.length inner ∧ Reps (fun x cs => Ever (Mv M v) W (fun W => d.K W x cs)) d.sz xs inner
section
variable {α : Type} {d : Kd α} {M M' : Nat → Prop} {e : TypeId} {base : Nat} {W w1 : World} {v v1 : Value} {xs : List α} {P : World → Prop}
theorem OwnE.slice (h : OwnE d M e base W v xs) : ∃ A c, v = .slice A xs.length c := by obtain ⟨i, h, _⟩ := h; exact own_slice h
end
section
variable {P : Program} {ops : Array Oper} {rest : List Oper} {o : Oper} {a : Act} {Q : Exit → Act → World → Prop} {α : Type}
end
def RowE {α : Type} (d : Kd α) (M : Nat → Prop) (W : World) (A : Option Addr) (n : Nat) (xs : List α) : Prop :=
 xs.length = n ∧ n ≤ 9223372036854775807 ∧ (0 < n → ∃ ad inner, A = some ad ∧ Reps (fun x cs => (cs.length = d.sz ∧ ∀ u ∈ cs, u.oneCell' = true) ∧ Ever M W (fun W => d.K W x cs)) d.sz xs inner ∧ Ever M W (fun W => ∀ i u, inner[i]? = some u → W.cell? (ad.add i) = some u))
section
variable {α : Type} {d : Kd α} {M M' : Nat → Prop} {W w1 : World} {A : Option Addr} {n : Nat} {xs : List α}
end
def IsRow {α : Type} (d : Kd α) (M : Nat → Prop) (W : World) (v : Value) (xs : List α) : Prop := ∃ A c, v = .slice A xs.length c ∧ xs.length ≤ c ∧ RowE d M W A xs.length xs
end Go.Proofs.Ytocicifgglkaeaa.Core
end

section
set_option linter.unusedVariables false
set_option linter.unusedSimpArgs false
namespace Go.Proofs.Ytocicifgglkaeaa.Wk
open Go.RowKit Go.Proofs.YtocicifgglkaeaaW.PrintWords Go.Proofs.YtocicifgglkaeaaW.PrintLast Go.Proofs.YtocicifgglkaeaaW.PrintMore Go.Proofs.Ytocicifgglkaeaa.Core
end Go.Proofs.Ytocicifgglkaeaa.Wk
namespace Go.Proofs.Ytocicifgglkaeaa.Core
open Go.RowKit Go.Proofs.YtocicifgglkaeaaW.PrintWords Go.Proofs.YtocicifgglkaeaaW.PrintLast Go.Proofs.YtocicifgglkaeaaW.PrintMore
section
variable {M M' F : Nat → Prop} {w w1 w2 W W' : World} {P Q : World → Prop} {g : Nat}
theorem C_cell {xs : List Int} {k : IntKind} {A : Option Addr} (h : Kd.C (Kd.int k) W A xs.length xs) (hn : 0 < xs.length) : ∃ ad, A = some ad ∧ ∀ j, j < xs.length → W.cell? (ad.add j) = some (.int k (xs.getD j 0)) := (Kd.reads_of_C h).2.2 hn
end
end Go.Proofs.Ytocicifgglkaeaa.Core
namespace Go.Proofs.Ytocicifgglkaeaa.Wk
open Go.RowKit Go.Proofs.YtocicifgglkaeaaW.PrintWords Go.Proofs.YtocicifgglkaeaaW.PrintLast Go.Proofs.YtocicifgglkaeaaW.PrintMore Go.Proofs.Ytocicifgglkaeaa.Core
section
variable {P : Program} {ops : Array Oper} {rest : List Oper} {o : Oper} {a : Act} {Q : Exit → Act → World → Prop} {W : World} {Kc : Act → World → Prop}
end
def keyIs (k : Int) (e : MapEntry) : Bool := match e.key with | .int .i64 a => a == k | _ => false
def mget (es : List MapEntry) (k : Int) : Option Value := (es.find? (keyIs k)).map (·.val)
def IntKeys (es : List MapEntry) : Prop := ∀ e ∈ es, ∃ a, e.key = .int .i64 a
structure IsMap (W : World) (m : Nat) (f : Int → Option Value) (n : Nat) : Prop where
 out : ∃ (es : Array MapEntry) (clock : Nat), W.heap[m]? = some (.map es clock) ∧ IntKeys es.toList ∧ es.size ≤ n ∧ ∀ k, mget es.toList k = f k
section
variable {P : Program} {W W' : World} {m n : Nat} {f : Int → Option Value}
end
section
variable {P : Program} {ops : Array Oper} {rest : List Oper} {o : Oper} {a : Act} {Q : Exit → Act → World → Prop} {W : World}
end
end Go.Proofs.Ytocicifgglkaeaa.Wk
end

section
namespace Go.Proofs.Ytocicifgglkaeaa.Chk
open Go.RowKit Go.Proofs.YtocicifgglkaeaaW.PrintWords Go.Proofs.YtocicifgglkaeaaW.PrintLast Go.Proofs.YtocicifgglkaeaaW.PrintMore Go.Proofs.Ytocicifgglkaeaa.Core Go.Proofs.Ytocicifgglkaeaa.Wk
set_option linter.unusedVariables false
set_option linter.unusedSimpArgs false
def wB (lo hi n : Int) : Bool := decide (lo ≤ n ∧ n ≤ hi)
def spB (a n : Int) : Bool := decide (0 ≤ a ∧ a ≤ 65535 ∧ a + n ≤ 65536)
def lowB (m : Int) (l : List Int) : Bool := decide (∀ x ∈ l, 0 ≤ x ∧ x ≤ m)
def smB (lo hi m : Int) (l : List Int) : Bool := wB lo hi l.length && lowB m l
theorem wB_yes {lo hi n : Int} (h0 : lo ≤ n) (h1 : n ≤ hi) : wB lo hi n = true := decide_eq_true ⟨h0, h1⟩
theorem wB_no {lo hi n : Int} (h : ¬ (lo ≤ n ∧ n ≤ hi)) : wB lo hi n = false := decide_eq_false h
theorem wB_iff {lo hi n : Int} : wB lo hi n = true ↔ lo ≤ n ∧ n ≤ hi := decide_eq_true_iff
theorem smB_len {lo hi m : Int} {l : List Int} (h : smB lo hi m l = true) : (l.length : Int) ≤ hi := by
 unfold smB at h
 rw [Bool.and_eq_true] at h
 exact (wB_iff.1 h.1).2
theorem low_nil (m : Int) : lowB m [] = true := decide_eq_true (fun x hx => by cases hx)
theorem low_take {m : Int} {l : List Int} {k : Nat} (hk : k < l.length) (h : lowB m (l.take k) = true) (hx : wB 0 m (l.getD k 0) = true) : lowB m (l.take (k + 1)) = true := by
 unfold lowB at h ⊢
 rw [decide_eq_true_eq] at h ⊢
 intro x hx'
 rw [List.take_succ_eq_append_getElem hk, List.mem_append] at hx'
 rcases hx' with hx' | hx'
 ·exact h x hx'
 ·have e : x = l[k] := by simpa using hx'
  rw [e]
  rw [List.getD_eq_getElem?_getD, List.getElem?_eq_getElem hk] at hx
  exact wB_iff.1 hx
theorem low_bad {m : Int} {l : List Int} {k : Nat} (hk : k < l.length) (hx : wB 0 m (l.getD k 0) = false) : lowB m l = false := by
 unfold lowB
 rw [decide_eq_false_iff_not]
 intro h
 have h1 := h l[k] (List.getElem_mem hk)
 rw [List.getD_eq_getElem?_getD, List.getElem?_eq_getElem hk] at hx
 have := wB_yes (lo := 0) (hi := m) h1.1 h1.2
 rw [Option.getD_some, this] at hx
 cases hx
set_option maxHeartbeats 4000000 in
set_option maxRecDepth 100000 in
theorem is_c (n : Int) (w : World) : Calls Try.prog 45 #[.int .i64 n] w fun e w' => e = .returned (.bool (wB 0 65535 n)) ∧ w = w' := by
 by_cases h0 : 0 ≤ n
 ·have t0 : decide (0 ≤ n) = true := decide_eq_true h0
  by_cases h1 : n ≤ 65535
  ·have t1 : decide (n ≤ 65535) = true := decide_eq_true h1
   rw [wB_yes h0 h1]; clear h0 h1
   go_enter Try.func45, Try.ntmps45
   go_wp2
   go_ret
   exact ⟨rfl, rfl⟩
  ·have t1 : decide (n ≤ 65535) = false := decide_eq_false h1
   rw [wB_no (fun a => h1 a.2)]; clear h0 h1
   go_enter Try.func45, Try.ntmps45
   go_wp2
   go_ret
   exact ⟨rfl, rfl⟩
 ·have t0 : decide (0 ≤ n) = false := decide_eq_false h0
  rw [wB_no (fun a => h0 a.1)]; clear h0
  go_enter Try.func45, Try.ntmps45
  go_wp2
  go_ret
  exact ⟨rfl, rfl⟩
set_option maxHeartbeats 4000000 in
set_option maxRecDepth 100000 in
theorem words_c (A : Option Addr) (c : Nat) (l : List Int) (w : World) (hV : Kd.C (Kd.int .i64) w A l.length l) : Calls Try.prog 68 #[.slice A l.length c] w fun e w' => e = .returned (.bool (lowB 65535 l)) ∧ w = w' := by
 have hmx := hV.2.1
 have HV := Aside0.mk hV
 clear hV
 go_enter Try.func68, Try.ntmps68
 go_wp2_with fail
 go_loop [3] (fun i => ∃ k : Nat, k ≤ l.length ∧ i = .int .i64 k ∧ Aside0 (lowB 65535 (l.take k) = true)) (fun i => l.length - (intOf i).toNat)
 case atStart => exact ⟨0, by omega, rfl, ⟨by rw [List.take_zero]; exact low_nil _⟩⟩
 case round =>
  obtain ⟨k, hk, rfl, HL⟩ := hrel
  by_cases hlt : k < l.length
  ·have t1 : decide (k < l.length) = true := decide_eq_true hlt
   have t2 : decide ((k : Int) < (l.length : Int)) = true := decide_eq_true (by omega)
   obtain ⟨ad, rfl, hc0⟩ := C_cell HV.out (by omega)
   have hc := hc0 k hlt
   clear hc0
   obtain ⟨x, hx⟩ : ∃ x, l.getD k 0 = x := ⟨_, rfl⟩
   rw [hx] at hc
   have HX := Aside0.mk hx
   clear hx
   have hkl := hlt
   clear hlt
   by_cases hb : wB 0 65535 x = true
   ·have HB := Aside0.mk hb
    skip
    go_wp2_with (go_at_call 45; refine (is_c _ _).mono ?_; rintro e w' ⟨rfl, rfl⟩)
    go_round
    case rel => exact ⟨k + 1, by omega, by go_num, ⟨low_take hkl HL.out (by rw [HX.out]; exact HB.out)⟩⟩
    case measure => simp [intOf]; omega
   ·have hb' : wB 0 65535 x = false := by simpa using hb
    have HN : Aside0 (lowB 65535 l = false) := ⟨low_bad hkl (by rw [HX.out]; exact hb')⟩
    clear hb
    go_wp2_with (go_at_call 45; refine (is_c _ _).mono ?_; rintro e w' ⟨rfl, rfl⟩)
    go_ret
    exact ⟨by rw [HN.out]; rfl, rfl⟩
  ·obtain rfl : k = l.length := by omega
   have t1 : decide (l.length < l.length) = false := decide_eq_false (by omega)
   have t2 : decide ((l.length : Int) < (l.length : Int)) = false := decide_eq_false (by omega)
   have hl := HL.out
   rw [List.take_of_length_le (Nat.le_refl _)] at hl
   have HL2 := Aside0.mk hl
   clear hl hlt
   go_wp2_with fail
   go_ret
   exact ⟨by rw [HL2.out]; rfl, rfl⟩
set_option maxHeartbeats 4000000 in
set_option maxRecDepth 100000 in
theorem bits_c (A : Option Addr) (c : Nat) (l : List Int) (w : World) (hV : Kd.C (Kd.int .i64) w A l.length l) : Calls Try.prog 67 #[.slice A l.length c] w fun e w' => e = .returned (.bool (lowB 1 l)) ∧ w = w' := by
 have hmx := hV.2.1
 have HV := Aside0.mk hV
 clear hV
 go_enter Try.func67, Try.ntmps67
 go_wp2_with fail
 go_loop [3] (fun i => ∃ k : Nat, k ≤ l.length ∧ i = .int .i64 k ∧ Aside0 (lowB 1 (l.take k) = true)) (fun i => l.length - (intOf i).toNat)
 case atStart => exact ⟨0, by omega, rfl, ⟨by rw [List.take_zero]; exact low_nil _⟩⟩
 case round =>
  obtain ⟨k, hk, rfl, HL⟩ := hrel
  by_cases hlt : k < l.length
  ·have t1 : decide (k < l.length) = true := decide_eq_true hlt
   have t2 : decide ((k : Int) < (l.length : Int)) = true := decide_eq_true (by omega)
   obtain ⟨ad, rfl, hc0⟩ := C_cell HV.out (by omega)
   have hc := hc0 k hlt
   clear hc0
   obtain ⟨x, hx⟩ : ∃ x, l.getD k 0 = x := ⟨_, rfl⟩
   rw [hx] at hc
   have HX := Aside0.mk hx
   clear hx
   have hkl := hlt
   clear hlt
   by_cases hb : wB 0 1 x = true
   ·have HB := Aside0.mk hb
    have hb2 := wB_iff.1 hb; clear hb; rcases (show x = 0 ∨ x = 1 by omega) with e | e <;> subst e <;> clear hb2 <;> (first | (have u0 : ((0 : Int) != 0) = false := rfl) | skip)
    all_goals
     go_wp2_with fail
     go_round
     case rel => exact ⟨k + 1, by omega, by go_num, ⟨low_take hkl HL.out (by rw [HX.out]; exact HB.out)⟩⟩
     case measure => simp [intOf]; omega
   ·have hb' : wB 0 1 x = false := by simpa using hb
    have HN : Aside0 (lowB 1 l = false) := ⟨low_bad hkl (by rw [HX.out]; exact hb')⟩
    have hb2 : ¬ (0 ≤ x ∧ x ≤ 1) := fun a => hb (wB_iff.2 a)
    have u0 : (x != 0) = true := bne_iff_ne.2 (by omega)
    have u1 : (x != 1) = true := bne_iff_ne.2 (by omega)
    clear hb hb' hb2
    go_wp2_with fail
    go_ret
    exact ⟨by rw [HN.out]; rfl, rfl⟩
  ·obtain rfl : k = l.length := by omega
   have t1 : decide (l.length < l.length) = false := decide_eq_false (by omega)
   have t2 : decide ((l.length : Int) < (l.length : Int)) = false := decide_eq_false (by omega)
   have hl := HL.out
   rw [List.take_of_length_le (Nat.le_refl _)] at hl
   have HL2 := Aside0.mk hl
   clear hl hlt
   go_wp2_with fail
   go_ret
   exact ⟨by rw [HL2.out]; rfl, rfl⟩
def chkB (f a c : Int) (v : List Int) (t n o : Int) : Bool :=
 if f = 1 ∨ f = 2 then t == 0 && n == 0 && o == 0 && (v.length : Int) == 0 && wB 1 2000 c && spB a c
 else if f = 3 ∨ f = 4 then t == 0 && n == 0 && o == 0 && (v.length : Int) == 0 && wB 1 125 c && spB a c
 else if f = 5 then t == 0 && n == 0 && o == 0 && c == 0 && smB 1 1 1 v && spB a 1
 else if f = 6 then t == 0 && n == 0 && o == 0 && c == 0 && smB 1 1 65535 v && spB a 1
 else if f = 15 then t == 0 && n == 0 && o == 0 && c == v.length && smB 1 1968 1 v && spB a v.length
 else if f = 16 then t == 0 && n == 0 && o == 0 && c == v.length && smB 1 123 65535 v && spB a v.length
 else if f = 22 then (v.length : Int) == 0 && t == 0 && c == 0 && spB a 1 && wB 0 65535 n && wB 0 65535 o
 else if f = 23 then n == 0 && o == 0 && wB 1 125 c && spB a c && smB 1 121 65535 v && spB t v.length
 else false
end Go.Proofs.Ytocicifgglkaeaa.Chk
end

section
namespace Go.Proofs.Ytocicifgglkaeaa.Chk
open Go.RowKit Go.Proofs.YtocicifgglkaeaaW.PrintWords Go.Proofs.YtocicifgglkaeaaW.PrintLast Go.Proofs.YtocicifgglkaeaaW.PrintMore Go.Proofs.Ytocicifgglkaeaa.Core Go.Proofs.Ytocicifgglkaeaa.Wk
set_option linter.unusedVariables false
set_option linter.unusedSimpArgs false
def bitB (f : Int) : Bool := decide (f = 1 ∨ f = 2 ∨ f = 5 ∨ f = 15)
set_option maxHeartbeats 4000000 in
set_option maxRecDepth 100000 in
theorem bit_c (f : Int) (w : World) : Calls Try.prog 27 #[.int .i64 f] w fun e w' => e = .returned (.bool (bitB f)) ∧ w = w' := by
 by_cases h0 : f = 1
 ·subst h0; rw [show bitB 1 = true from by decide]
  go_enter Try.func27, Try.ntmps27
  go_wp2
  go_ret
  exact ⟨rfl, rfl⟩
 by_cases h1 : f = 2
 ·subst h1; rw [show bitB 2 = true from by decide]
  go_enter Try.func27, Try.ntmps27
  go_wp2
  go_ret
  exact ⟨rfl, rfl⟩
 by_cases h2 : f = 5
 ·subst h2; rw [show bitB 5 = true from by decide]
  go_enter Try.func27, Try.ntmps27
  go_wp2
  go_ret
  exact ⟨rfl, rfl⟩
 by_cases h3 : f = 15
 ·subst h3; rw [show bitB 15 = true from by decide]
  go_enter Try.func27, Try.ntmps27
  go_wp2
  go_ret
  exact ⟨rfl, rfl⟩
 have hr : Aside0 (bitB f = false) := ⟨decide_eq_false (by omega)⟩
 rw [hr.out]
 have y0 : (f == 1) = false := beq_eq_false_iff_ne.2 h0
 have y1 : (f == 2) = false := beq_eq_false_iff_ne.2 h1
 have y2 : (f == 5) = false := beq_eq_false_iff_ne.2 h2
 have y3 : (f == 15) = false := beq_eq_false_iff_ne.2 h3
 clear h0 h1 h2 h3
 go_enter Try.func27, Try.ntmps27
 go_wp2
 go_ret
 exact ⟨rfl, rfl⟩
set_option maxHeartbeats 4000000 in
set_option maxRecDepth 100000 in
theorem refspan_c (a n : Int) (w : World) (h0 : -1000000 ≤ n) (h1 : n ≤ 1000000) : Calls Try.prog 43 #[.int .i64 a, .int .i64 n] w fun e w' => e = .returned (.bool (spB a n)) ∧ w = w' := by
 by_cases h2 : wB 0 65535 a = true
 ·have hb := wB_iff.1 h2
  have b0 := hb.1; have b1 := hb.2
  by_cases h3 : a + n ≤ 65536
  ·have t1 : decide (a + n ≤ 65536) = true := decide_eq_true h3
   have hr : Aside0 (spB a n = true) := ⟨decide_eq_true ⟨b0, b1, h3⟩⟩
   rw [hr.out]; clear h3 hb
   go_enter Try.func43, Try.ntmps43
   go_wp2_with (go_at_call 45; refine (is_c _ _).mono ?_; rintro e w' ⟨rfl, rfl⟩)
   go_ret
   exact ⟨rfl, rfl⟩
  ·have t1 : decide (a + n ≤ 65536) = false := decide_eq_false h3
   have hr : Aside0 (spB a n = false) := ⟨decide_eq_false (fun a => h3 a.2.2)⟩
   rw [hr.out]; clear h3 hb
   go_enter Try.func43, Try.ntmps43
   go_wp2_with (go_at_call 45; refine (is_c _ _).mono ?_; rintro e w' ⟨rfl, rfl⟩)
   go_ret
   exact ⟨rfl, rfl⟩
 ·have t0 : wB 0 65535 a = false := by simpa using h2
  have hr : Aside0 (spB a n = false) := ⟨decide_eq_false (fun a => h2 (wB_iff.2 ⟨a.1, a.2.1⟩))⟩
  rw [hr.out]; clear h2
  go_enter Try.func43, Try.ntmps43
  go_wp2_with (go_at_call 45; refine (is_c _ _).mono ?_; rintro e w' ⟨rfl, rfl⟩)
  go_ret
  exact ⟨rfl, rfl⟩
set_option maxHeartbeats 4000000 in
set_option maxRecDepth 100000 in
theorem vals_1 (f a c : Int) (A : Option Addr) (cc : Nat) (v : List Int) (t n o lo hi : Int) (w : World) (hV : Kd.C (Kd.int .i64) w A v.length v) (h : (v.length : Int) < lo) : Calls Try.prog 44 #[.agg #[.int .i64 f, .int .i64 a, .int .i64 c, .slice A v.length cc, .int .i64 t, .int .i64 n, .int .i64 o], .int .i64 lo, .int .i64 hi] w fun e w' => e = .returned (.bool (false)) ∧ Below w.heap.size w w' := by
 have HV := Aside0.mk hV; clear hV
 have t1 : decide ((v.length : Int) < lo) = true := decide_eq_true h
 clear h
 go_enter Try.func44, Try.ntmps44
 go_wp2_with (first | fail)
 go_ret
 exact ⟨rfl, by repeat (first | exact Below.refl _ _ | apply below_alloc)⟩
set_option maxHeartbeats 4000000 in
set_option maxRecDepth 100000 in
theorem vals_2 (f a c : Int) (A : Option Addr) (cc : Nat) (v : List Int) (t n o lo hi : Int) (w : World) (hV : Kd.C (Kd.int .i64) w A v.length v) (h0 : ¬ (v.length : Int) < lo) (h : hi < (v.length : Int)) : Calls Try.prog 44 #[.agg #[.int .i64 f, .int .i64 a, .int .i64 c, .slice A v.length cc, .int .i64 t, .int .i64 n, .int .i64 o], .int .i64 lo, .int .i64 hi] w fun e w' => e = .returned (.bool (false)) ∧ Below w.heap.size w w' := by
 have HV := Aside0.mk hV; clear hV
 have t1 : decide ((v.length : Int) < lo) = false := decide_eq_false h0; have t2 : decide (hi < (v.length : Int)) = true := decide_eq_true h
 clear h h0
 go_enter Try.func44, Try.ntmps44
 go_wp2_with (first | fail)
 go_ret
 exact ⟨rfl, by repeat (first | exact Below.refl _ _ | apply below_alloc)⟩
set_option maxHeartbeats 4000000 in
set_option maxRecDepth 100000 in
theorem vals_3 (f a c : Int) (A : Option Addr) (cc : Nat) (v : List Int) (t n o lo hi : Int) (w : World) (hV : Kd.C (Kd.int .i64) w A v.length v) (h0 : ¬ (v.length : Int) < lo) (h : ¬ hi < (v.length : Int)) (hbt : bitB f = true) : Calls Try.prog 44 #[.agg #[.int .i64 f, .int .i64 a, .int .i64 c, .slice A v.length cc, .int .i64 t, .int .i64 n, .int .i64 o], .int .i64 lo, .int .i64 hi] w fun e w' => e = .returned (.bool (lowB 1 v)) ∧ Below w.heap.size w w' := by
 have HV := Aside0.mk hV; clear hV
 have t1 : decide ((v.length : Int) < lo) = false := decide_eq_false h0; have t2 : decide (hi < (v.length : Int)) = false := decide_eq_false h; have HBT := Aside0.mk hbt
 clear h h0 hbt
 go_enter Try.func44, Try.ntmps44
 go_wp2_with (first | (go_at_call 27; refine (bit_c _ _).mono ?_; rw [HBT.out]; rintro e w' ⟨rfl, rfl⟩) | (go_at_call 67; refine (bits_c A cc v _ ?hv).mono ?_; (case hv => (with_reducible repeat (first | refine Kd.C_alloc ?_ _ | refine Kd.C_drewN ?_ _ | refine Kd.C_drew ?_)); exact HV.out); rintro e w' ⟨rfl, rfl⟩))
 go_ret
 exact ⟨rfl, by repeat (first | exact Below.refl _ _ | apply below_alloc)⟩
set_option maxHeartbeats 4000000 in
set_option maxRecDepth 100000 in
theorem vals_4 (f a c : Int) (A : Option Addr) (cc : Nat) (v : List Int) (t n o lo hi : Int) (w : World) (hV : Kd.C (Kd.int .i64) w A v.length v) (h0 : ¬ (v.length : Int) < lo) (h : ¬ hi < (v.length : Int)) (hbt : bitB f = false) : Calls Try.prog 44 #[.agg #[.int .i64 f, .int .i64 a, .int .i64 c, .slice A v.length cc, .int .i64 t, .int .i64 n, .int .i64 o], .int .i64 lo, .int .i64 hi] w fun e w' => e = .returned (.bool (lowB 65535 v)) ∧ Below w.heap.size w w' := by
 have HV := Aside0.mk hV; clear hV
 have t1 : decide ((v.length : Int) < lo) = false := decide_eq_false h0; have t2 : decide (hi < (v.length : Int)) = false := decide_eq_false h; have HBT := Aside0.mk hbt
 clear h h0 hbt
 go_enter Try.func44, Try.ntmps44
 go_wp2_with (first | (go_at_call 27; refine (bit_c _ _).mono ?_; rw [HBT.out]; rintro e w' ⟨rfl, rfl⟩) | (go_at_call 68; refine (words_c A cc v _ ?hv).mono ?_; (case hv => (with_reducible repeat (first | refine Kd.C_alloc ?_ _ | refine Kd.C_drewN ?_ _ | refine Kd.C_drew ?_)); exact HV.out); rintro e w' ⟨rfl, rfl⟩))
 go_ret
 exact ⟨rfl, by repeat (first | exact Below.refl _ _ | apply below_alloc)⟩
theorem vals_c (f a c : Int) (A : Option Addr) (cc : Nat) (v : List Int) (t n o lo hi : Int) (w : World) (hV : Kd.C (Kd.int .i64) w A v.length v) {m : Int} (hm : (if bitB f = true then 1 else 65535) = m) : Calls Try.prog 44 #[.agg #[.int .i64 f, .int .i64 a, .int .i64 c, .slice A v.length cc, .int .i64 t, .int .i64 n, .int .i64 o], .int .i64 lo, .int .i64 hi] w fun e w' => e = .returned (.bool (smB lo hi m v)) ∧ Below w.heap.size w w' := by
 unfold smB
 by_cases h0 : (v.length : Int) < lo
 ·rw [wB_no (fun a => by omega), Bool.false_and]; exact vals_1 f a c A cc v t n o lo hi w hV h0
 by_cases h1 : hi < (v.length : Int)
 ·rw [wB_no (fun a => by omega), Bool.false_and]; exact vals_2 f a c A cc v t n o lo hi w hV h0 h1
 rw [wB_yes (by omega) (by omega), Bool.true_and]
 cases hb : bitB f with
 | true => rw [hb, if_pos rfl] at hm; subst hm; exact vals_3 f a c A cc v t n o lo hi w hV h0 h1 hb
 | false => rw [hb, if_neg (by simp)] at hm; subst hm; exact vals_4 f a c A cc v t n o lo hi w hV h0 h1 hb
theorem cells7 {w : World} {g : Nat} {v0 v1 v2 v3 v4 v5 v6 : Value} {T : TypeId} (h : w.heap[g]? = some (.cells #[v0, v1, v2, v3, v4, v5, v6] T (0, 0))) : w.cell? ⟨g, 0, none⟩ = some v0 ∧ w.cell? ⟨g, 1, none⟩ = some v1 ∧ w.cell? ⟨g, 2, none⟩ = some v2 ∧ w.cell? ⟨g, 3, none⟩ = some v3 ∧ w.cell? ⟨g, 4, none⟩ = some v4 ∧ w.cell? ⟨g, 5, none⟩ = some v5 ∧ w.cell? ⟨g, 6, none⟩ = some v6 :=
 ⟨(blk_cell h 0).trans rfl, (blk_cell h 1).trans rfl, (blk_cell h 2).trans rfl, (blk_cell h 3).trans rfl, (blk_cell h 4).trans rfl, (blk_cell h 5).trans rfl, (blk_cell h 6).trans rfl⟩
end Go.Proofs.Ytocicifgglkaeaa.Chk
end

section
namespace Go.Proofs.Ytocicifgglkaeaa.Chk
open Go.RowKit Go.Proofs.YtocicifgglkaeaaW.PrintWords Go.Proofs.YtocicifgglkaeaaW.PrintLast Go.Proofs.YtocicifgglkaeaaW.PrintMore Go.Proofs.Ytocicifgglkaeaa.Core Go.Proofs.Ytocicifgglkaeaa.Wk
set_option linter.unusedVariables false
set_option linter.unusedSimpArgs false
set_option maxHeartbeats 4000000 in
set_option maxRecDepth 100000 in
theorem may_1 (a c : Int) (A : Option Addr) (cc : Nat) (v : List Int) (t n o : Int) (w : World) (hV : Kd.C (Kd.int .i64) w A v.length v) : Calls Try.prog 20 #[.agg #[.int .i64 1, .int .i64 a, .int .i64 c, .slice A v.length cc, .int .i64 t, .int .i64 n, .int .i64 o]] w fun e w' => e = .returned (.bool (chkB 1 a c v t n o)) ∧ Below w.heap.size w w' := by
 have HV := Aside0.mk hV; clear hV
 by_cases hz0 : (n == 0) = true
 ·have z0 : (n == 0) = true := hz0; clear hz0
  by_cases hz1 : (o == 0) = true
  ·have z1 : (o == 0) = true := hz1; clear hz1
   by_cases hz2 : ((v.length : Int) == 0) = true
   ·have z2 : ((v.length : Int) == 0) = true := hz2; clear hz2
    by_cases hz3 : (t == 0) = true
    ·have z3 : (t == 0) = true := hz3; clear hz3
     by_cases hz4 : decide (1 ≤ c) = true
     ·have z4 : decide (1 ≤ c) = true := hz4; clear hz4; have pz4 := of_decide_eq_true z4
      by_cases hz5 : decide (c ≤ 2000) = true
      ·have z5 : decide (c ≤ 2000) = true := hz5; clear hz5; have pz5 := of_decide_eq_true z5
       by_cases hz6 : spB a c = true
       ·have z6 : spB a c = true := hz6; clear hz6
        have HR : Aside0 (chkB 1 a c v t n o = true) := ⟨by simp_all [chkB, wB] <;> (intros; omega)⟩
        rw [HR.out]
        go_enter Try.func20, Try.ntmps20
        go_wp2_with (first | ((with_reducible refine gate_dst (N := 1) rfl ?_); refine bx_ (N := 1) (cs := #[.int .i64 1, .int .i64 a, .int .i64 c, .slice A v.length cc, .int .i64 t, .int .i64 n, .int .i64 o]) (t := 24) ?_; intro g hg w1 hb HB; have XB := Aside0.mk HB; have BK := Aside0.mk hb; obtain ⟨k0, k1, k2, k3, k4, k5, k6⟩ := cells7 hb; clear hg hb HB) | (go_at_call 45; refine (is_c _ _).mono ?_; rintro e w' ⟨rfl, rfl⟩) | (go_at_call 43; refine (refspan_c _ _ _ (by omega) (by omega)).mono ?_; rintro e w' ⟨rfl, rfl⟩))
        go_ret
        exact ⟨rfl, XB.out⟩
       ·have z6 : spB a c = false := by simpa using hz6
        clear hz6
        have HR : Aside0 (chkB 1 a c v t n o = false) := ⟨by simp_all [chkB, wB] <;> (intros; omega)⟩
        rw [HR.out]
        go_enter Try.func20, Try.ntmps20
        go_wp2_with (first | ((with_reducible refine gate_dst (N := 1) rfl ?_); refine bx_ (N := 1) (cs := #[.int .i64 1, .int .i64 a, .int .i64 c, .slice A v.length cc, .int .i64 t, .int .i64 n, .int .i64 o]) (t := 24) ?_; intro g hg w1 hb HB; have XB := Aside0.mk HB; have BK := Aside0.mk hb; obtain ⟨k0, k1, k2, k3, k4, k5, k6⟩ := cells7 hb; clear hg hb HB) | (go_at_call 45; refine (is_c _ _).mono ?_; rintro e w' ⟨rfl, rfl⟩) | (go_at_call 43; refine (refspan_c _ _ _ (by omega) (by omega)).mono ?_; rintro e w' ⟨rfl, rfl⟩))
        go_ret
        exact ⟨rfl, XB.out⟩
      ·have z5 : decide (c ≤ 2000) = false := by simpa using hz5
       clear hz5
       have HR : Aside0 (chkB 1 a c v t n o = false) := ⟨by simp_all [chkB, wB] <;> (intros; omega)⟩
       rw [HR.out]
       go_enter Try.func20, Try.ntmps20
       go_wp2_with (first | ((with_reducible refine gate_dst (N := 1) rfl ?_); refine bx_ (N := 1) (cs := #[.int .i64 1, .int .i64 a, .int .i64 c, .slice A v.length cc, .int .i64 t, .int .i64 n, .int .i64 o]) (t := 24) ?_; intro g hg w1 hb HB; have XB := Aside0.mk HB; have BK := Aside0.mk hb; obtain ⟨k0, k1, k2, k3, k4, k5, k6⟩ := cells7 hb; clear hg hb HB) | (go_at_call 45; refine (is_c _ _).mono ?_; rintro e w' ⟨rfl, rfl⟩) | (go_at_call 43; refine (refspan_c _ _ _ (by omega) (by omega)).mono ?_; rintro e w' ⟨rfl, rfl⟩))
       go_ret
       exact ⟨rfl, XB.out⟩
     ·have z4 : decide (1 ≤ c) = false := by simpa using hz4
      clear hz4
      have HR : Aside0 (chkB 1 a c v t n o = false) := ⟨by simp_all [chkB, wB] <;> (intros; omega)⟩
      rw [HR.out]
      go_enter Try.func20, Try.ntmps20
      go_wp2_with (first | ((with_reducible refine gate_dst (N := 1) rfl ?_); refine bx_ (N := 1) (cs := #[.int .i64 1, .int .i64 a, .int .i64 c, .slice A v.length cc, .int .i64 t, .int .i64 n, .int .i64 o]) (t := 24) ?_; intro g hg w1 hb HB; have XB := Aside0.mk HB; have BK := Aside0.mk hb; obtain ⟨k0, k1, k2, k3, k4, k5, k6⟩ := cells7 hb; clear hg hb HB) | (go_at_call 45; refine (is_c _ _).mono ?_; rintro e w' ⟨rfl, rfl⟩) | (go_at_call 43; refine (refspan_c _ _ _ (by omega) (by omega)).mono ?_; rintro e w' ⟨rfl, rfl⟩))
      go_ret
      exact ⟨rfl, XB.out⟩
    ·have z3 : (t == 0) = false := by simpa using hz3
     clear hz3
     have HR : Aside0 (chkB 1 a c v t n o = false) := ⟨by simp_all [chkB, wB] <;> (intros; omega)⟩
     rw [HR.out]
     go_enter Try.func20, Try.ntmps20
     go_wp2_with (first | ((with_reducible refine gate_dst (N := 1) rfl ?_); refine bx_ (N := 1) (cs := #[.int .i64 1, .int .i64 a, .int .i64 c, .slice A v.length cc, .int .i64 t, .int .i64 n, .int .i64 o]) (t := 24) ?_; intro g hg w1 hb HB; have XB := Aside0.mk HB; have BK := Aside0.mk hb; obtain ⟨k0, k1, k2, k3, k4, k5, k6⟩ := cells7 hb; clear hg hb HB) | (go_at_call 45; refine (is_c _ _).mono ?_; rintro e w' ⟨rfl, rfl⟩) | (go_at_call 43; refine (refspan_c _ _ _ (by omega) (by omega)).mono ?_; rintro e w' ⟨rfl, rfl⟩))
     go_ret
     exact ⟨rfl, XB.out⟩
   ·have z2 : ((v.length : Int) == 0) = false := by simpa using hz2
    clear hz2
    have HR : Aside0 (chkB 1 a c v t n o = false) := ⟨by simp_all [chkB, wB] <;> (intros; omega)⟩
    rw [HR.out]
    go_enter Try.func20, Try.ntmps20
    go_wp2_with (first | ((with_reducible refine gate_dst (N := 1) rfl ?_); refine bx_ (N := 1) (cs := #[.int .i64 1, .int .i64 a, .int .i64 c, .slice A v.length cc, .int .i64 t, .int .i64 n, .int .i64 o]) (t := 24) ?_; intro g hg w1 hb HB; have XB := Aside0.mk HB; have BK := Aside0.mk hb; obtain ⟨k0, k1, k2, k3, k4, k5, k6⟩ := cells7 hb; clear hg hb HB) | (go_at_call 45; refine (is_c _ _).mono ?_; rintro e w' ⟨rfl, rfl⟩) | (go_at_call 43; refine (refspan_c _ _ _ (by omega) (by omega)).mono ?_; rintro e w' ⟨rfl, rfl⟩))
    go_ret
    exact ⟨rfl, XB.out⟩
  ·have z1 : (o == 0) = false := by simpa using hz1
   clear hz1
   by_cases hz2 : ((v.length : Int) == 0) = true
   ·have z2 : ((v.length : Int) == 0) = true := hz2; clear hz2
    have HR : Aside0 (chkB 1 a c v t n o = false) := ⟨by simp_all [chkB, wB] <;> (intros; omega)⟩
    rw [HR.out]
    go_enter Try.func20, Try.ntmps20
    go_wp2_with (first | ((with_reducible refine gate_dst (N := 1) rfl ?_); refine bx_ (N := 1) (cs := #[.int .i64 1, .int .i64 a, .int .i64 c, .slice A v.length cc, .int .i64 t, .int .i64 n, .int .i64 o]) (t := 24) ?_; intro g hg w1 hb HB; have XB := Aside0.mk HB; have BK := Aside0.mk hb; obtain ⟨k0, k1, k2, k3, k4, k5, k6⟩ := cells7 hb; clear hg hb HB) | (go_at_call 45; refine (is_c _ _).mono ?_; rintro e w' ⟨rfl, rfl⟩) | (go_at_call 43; refine (refspan_c _ _ _ (by omega) (by omega)).mono ?_; rintro e w' ⟨rfl, rfl⟩))
    go_ret
    exact ⟨rfl, XB.out⟩
   ·have z2 : ((v.length : Int) == 0) = false := by simpa using hz2
    clear hz2
    have HR : Aside0 (chkB 1 a c v t n o = false) := ⟨by simp_all [chkB, wB] <;> (intros; omega)⟩
    rw [HR.out]
    go_enter Try.func20, Try.ntmps20
    go_wp2_with (first | ((with_reducible refine gate_dst (N := 1) rfl ?_); refine bx_ (N := 1) (cs := #[.int .i64 1, .int .i64 a, .int .i64 c, .slice A v.length cc, .int .i64 t, .int .i64 n, .int .i64 o]) (t := 24) ?_; intro g hg w1 hb HB; have XB := Aside0.mk HB; have BK := Aside0.mk hb; obtain ⟨k0, k1, k2, k3, k4, k5, k6⟩ := cells7 hb; clear hg hb HB) | (go_at_call 45; refine (is_c _ _).mono ?_; rintro e w' ⟨rfl, rfl⟩) | (go_at_call 43; refine (refspan_c _ _ _ (by omega) (by omega)).mono ?_; rintro e w' ⟨rfl, rfl⟩))
    go_ret
    exact ⟨rfl, XB.out⟩
 ·have z0 : (n == 0) = false := by simpa using hz0
  clear hz0
  by_cases hz1 : ((v.length : Int) == 0) = true
  ·have z1 : ((v.length : Int) == 0) = true := hz1; clear hz1
   have HR : Aside0 (chkB 1 a c v t n o = false) := ⟨by simp_all [chkB, wB] <;> (intros; omega)⟩
   rw [HR.out]
   go_enter Try.func20, Try.ntmps20
   go_wp2_with (first | ((with_reducible refine gate_dst (N := 1) rfl ?_); refine bx_ (N := 1) (cs := #[.int .i64 1, .int .i64 a, .int .i64 c, .slice A v.length cc, .int .i64 t, .int .i64 n, .int .i64 o]) (t := 24) ?_; intro g hg w1 hb HB; have XB := Aside0.mk HB; have BK := Aside0.mk hb; obtain ⟨k0, k1, k2, k3, k4, k5, k6⟩ := cells7 hb; clear hg hb HB) | (go_at_call 45; refine (is_c _ _).mono ?_; rintro e w' ⟨rfl, rfl⟩) | (go_at_call 43; refine (refspan_c _ _ _ (by omega) (by omega)).mono ?_; rintro e w' ⟨rfl, rfl⟩))
   go_ret
   exact ⟨rfl, XB.out⟩
  ·have z1 : ((v.length : Int) == 0) = false := by simpa using hz1
   clear hz1
   have HR : Aside0 (chkB 1 a c v t n o = false) := ⟨by simp_all [chkB, wB] <;> (intros; omega)⟩
   rw [HR.out]
   go_enter Try.func20, Try.ntmps20
   go_wp2_with (first | ((with_reducible refine gate_dst (N := 1) rfl ?_); refine bx_ (N := 1) (cs := #[.int .i64 1, .int .i64 a, .int .i64 c, .slice A v.length cc, .int .i64 t, .int .i64 n, .int .i64 o]) (t := 24) ?_; intro g hg w1 hb HB; have XB := Aside0.mk HB; have BK := Aside0.mk hb; obtain ⟨k0, k1, k2, k3, k4, k5, k6⟩ := cells7 hb; clear hg hb HB) | (go_at_call 45; refine (is_c _ _).mono ?_; rintro e w' ⟨rfl, rfl⟩) | (go_at_call 43; refine (refspan_c _ _ _ (by omega) (by omega)).mono ?_; rintro e w' ⟨rfl, rfl⟩))
   go_ret
   exact ⟨rfl, XB.out⟩
set_option maxHeartbeats 4000000 in
set_option maxRecDepth 100000 in
theorem may_2 (a c : Int) (A : Option Addr) (cc : Nat) (v : List Int) (t n o : Int) (w : World) (hV : Kd.C (Kd.int .i64) w A v.length v) : Calls Try.prog 20 #[.agg #[.int .i64 2, .int .i64 a, .int .i64 c, .slice A v.length cc, .int .i64 t, .int .i64 n, .int .i64 o]] w fun e w' => e = .returned (.bool (chkB 2 a c v t n o)) ∧ Below w.heap.size w w' := by
 have HV := Aside0.mk hV; clear hV
 by_cases hz0 : (n == 0) = true
 ·have z0 : (n == 0) = true := hz0; clear hz0
  by_cases hz1 : (o == 0) = true
  ·have z1 : (o == 0) = true := hz1; clear hz1
   by_cases hz2 : ((v.length : Int) == 0) = true
   ·have z2 : ((v.length : Int) == 0) = true := hz2; clear hz2
    by_cases hz3 : (t == 0) = true
    ·have z3 : (t == 0) = true := hz3; clear hz3
     by_cases hz4 : decide (1 ≤ c) = true
     ·have z4 : decide (1 ≤ c) = true := hz4; clear hz4; have pz4 := of_decide_eq_true z4
      by_cases hz5 : decide (c ≤ 2000) = true
      ·have z5 : decide (c ≤ 2000) = true := hz5; clear hz5; have pz5 := of_decide_eq_true z5
       by_cases hz6 : spB a c = true
       ·have z6 : spB a c = true := hz6; clear hz6
        have HR : Aside0 (chkB 2 a c v t n o = true) := ⟨by simp_all [chkB, wB] <;> (intros; omega)⟩
        rw [HR.out]
        go_enter Try.func20, Try.ntmps20
        go_wp2_with (first | ((with_reducible refine gate_dst (N := 1) rfl ?_); refine bx_ (N := 1) (cs := #[.int .i64 2, .int .i64 a, .int .i64 c, .slice A v.length cc, .int .i64 t, .int .i64 n, .int .i64 o]) (t := 24) ?_; intro g hg w1 hb HB; have XB := Aside0.mk HB; have BK := Aside0.mk hb; obtain ⟨k0, k1, k2, k3, k4, k5, k6⟩ := cells7 hb; clear hg hb HB) | (go_at_call 45; refine (is_c _ _).mono ?_; rintro e w' ⟨rfl, rfl⟩) | (go_at_call 43; refine (refspan_c _ _ _ (by omega) (by omega)).mono ?_; rintro e w' ⟨rfl, rfl⟩))
        go_ret
        exact ⟨rfl, XB.out⟩
       ·have z6 : spB a c = false := by simpa using hz6
        clear hz6
        have HR : Aside0 (chkB 2 a c v t n o = false) := ⟨by simp_all [chkB, wB] <;> (intros; omega)⟩
        rw [HR.out]
        go_enter Try.func20, Try.ntmps20
        go_wp2_with (first | ((with_reducible refine gate_dst (N := 1) rfl ?_); refine bx_ (N := 1) (cs := #[.int .i64 2, .int .i64 a, .int .i64 c, .slice A v.length cc, .int .i64 t, .int .i64 n, .int .i64 o]) (t := 24) ?_; intro g hg w1 hb HB; have XB := Aside0.mk HB; have BK := Aside0.mk hb; obtain ⟨k0, k1, k2, k3, k4, k5, k6⟩ := cells7 hb; clear hg hb HB) | (go_at_call 45; refine (is_c _ _).mono ?_; rintro e w' ⟨rfl, rfl⟩) | (go_at_call 43; refine (refspan_c _ _ _ (by omega) (by omega)).mono ?_; rintro e w' ⟨rfl, rfl⟩))
        go_ret
        exact ⟨rfl, XB.out⟩
      ·have z5 : decide (c ≤ 2000) = false := by simpa using hz5
       clear hz5
       have HR : Aside0 (chkB 2 a c v t n o = false) := ⟨by simp_all [chkB, wB] <;> (intros; omega)⟩
       rw [HR.out]
       go_enter Try.func20, Try.ntmps20
       go_wp2_with (first | ((with_reducible refine gate_dst (N := 1) rfl ?_); refine bx_ (N := 1) (cs := #[.int .i64 2, .int .i64 a, .int .i64 c, .slice A v.length cc, .int .i64 t, .int .i64 n, .int .i64 o]) (t := 24) ?_; intro g hg w1 hb HB; have XB := Aside0.mk HB; have BK := Aside0.mk hb; obtain ⟨k0, k1, k2, k3, k4, k5, k6⟩ := cells7 hb; clear hg hb HB) | (go_at_call 45; refine (is_c _ _).mono ?_; rintro e w' ⟨rfl, rfl⟩) | (go_at_call 43; refine (refspan_c _ _ _ (by omega) (by omega)).mono ?_; rintro e w' ⟨rfl, rfl⟩))
       go_ret
       exact ⟨rfl, XB.out⟩
     ·have z4 : decide (1 ≤ c) = false := by simpa using hz4
      clear hz4
      have HR : Aside0 (chkB 2 a c v t n o = false) := ⟨by simp_all [chkB, wB] <;> (intros; omega)⟩
      rw [HR.out]
      go_enter Try.func20, Try.ntmps20
      go_wp2_with (first | ((with_reducible refine gate_dst (N := 1) rfl ?_); refine bx_ (N := 1) (cs := #[.int .i64 2, .int .i64 a, .int .i64 c, .slice A v.length cc, .int .i64 t, .int .i64 n, .int .i64 o]) (t := 24) ?_; intro g hg w1 hb HB; have XB := Aside0.mk HB; have BK := Aside0.mk hb; obtain ⟨k0, k1, k2, k3, k4, k5, k6⟩ := cells7 hb; clear hg hb HB) | (go_at_call 45; refine (is_c _ _).mono ?_; rintro e w' ⟨rfl, rfl⟩) | (go_at_call 43; refine (refspan_c _ _ _ (by omega) (by omega)).mono ?_; rintro e w' ⟨rfl, rfl⟩))
      go_ret
      exact ⟨rfl, XB.out⟩
    ·have z3 : (t == 0) = false := by simpa using hz3
     clear hz3
     have HR : Aside0 (chkB 2 a c v t n o = false) := ⟨by simp_all [chkB, wB] <;> (intros; omega)⟩
     rw [HR.out]
     go_enter Try.func20, Try.ntmps20
     go_wp2_with (first | ((with_reducible refine gate_dst (N := 1) rfl ?_); refine bx_ (N := 1) (cs := #[.int .i64 2, .int .i64 a, .int .i64 c, .slice A v.length cc, .int .i64 t, .int .i64 n, .int .i64 o]) (t := 24) ?_; intro g hg w1 hb HB; have XB := Aside0.mk HB; have BK := Aside0.mk hb; obtain ⟨k0, k1, k2, k3, k4, k5, k6⟩ := cells7 hb; clear hg hb HB) | (go_at_call 45; refine (is_c _ _).mono ?_; rintro e w' ⟨rfl, rfl⟩) | (go_at_call 43; refine (refspan_c _ _ _ (by omega) (by omega)).mono ?_; rintro e w' ⟨rfl, rfl⟩))
     go_ret
     exact ⟨rfl, XB.out⟩
   ·have z2 : ((v.length : Int) == 0) = false := by simpa using hz2
    clear hz2
    have HR : Aside0 (chkB 2 a c v t n o = false) := ⟨by simp_all [chkB, wB] <;> (intros; omega)⟩
    rw [HR.out]
    go_enter Try.func20, Try.ntmps20
    go_wp2_with (first | ((with_reducible refine gate_dst (N := 1) rfl ?_); refine bx_ (N := 1) (cs := #[.int .i64 2, .int .i64 a, .int .i64 c, .slice A v.length cc, .int .i64 t, .int .i64 n, .int .i64 o]) (t := 24) ?_; intro g hg w1 hb HB; have XB := Aside0.mk HB; have BK := Aside0.mk hb; obtain ⟨k0, k1, k2, k3, k4, k5, k6⟩ := cells7 hb; clear hg hb HB) | (go_at_call 45; refine (is_c _ _).mono ?_; rintro e w' ⟨rfl, rfl⟩) | (go_at_call 43; refine (refspan_c _ _ _ (by omega) (by omega)).mono ?_; rintro e w' ⟨rfl, rfl⟩))
    go_ret
    exact ⟨rfl, XB.out⟩
  ·have z1 : (o == 0) = false := by simpa using hz1
   clear hz1
   by_cases hz2 : ((v.length : Int) == 0) = true
   ·have z2 : ((v.length : Int) == 0) = true := hz2; clear hz2
    have HR : Aside0 (chkB 2 a c v t n o = false) := ⟨by simp_all [chkB, wB] <;> (intros; omega)⟩
    rw [HR.out]
    go_enter Try.func20, Try.ntmps20
    go_wp2_with (first | ((with_reducible refine gate_dst (N := 1) rfl ?_); refine bx_ (N := 1) (cs := #[.int .i64 2, .int .i64 a, .int .i64 c, .slice A v.length cc, .int .i64 t, .int .i64 n, .int .i64 o]) (t := 24) ?_; intro g hg w1 hb HB; have XB := Aside0.mk HB; have BK := Aside0.mk hb; obtain ⟨k0, k1, k2, k3, k4, k5, k6⟩ := cells7 hb; clear hg hb HB) | (go_at_call 45; refine (is_c _ _).mono ?_; rintro e w' ⟨rfl, rfl⟩) | (go_at_call 43; refine (refspan_c _ _ _ (by omega) (by omega)).mono ?_; rintro e w' ⟨rfl, rfl⟩))
    go_ret
    exact ⟨rfl, XB.out⟩
   ·have z2 : ((v.length : Int) == 0) = false := by simpa using hz2
    clear hz2
    have HR : Aside0 (chkB 2 a c v t n o = false) := ⟨by simp_all [chkB, wB] <;> (intros; omega)⟩
    rw [HR.out]
    go_enter Try.func20, Try.ntmps20
    go_wp2_with (first | ((with_reducible refine gate_dst (N := 1) rfl ?_); refine bx_ (N := 1) (cs := #[.int .i64 2, .int .i64 a, .int .i64 c, .slice A v.length cc, .int .i64 t, .int .i64 n, .int .i64 o]) (t := 24) ?_; intro g hg w1 hb HB; have XB := Aside0.mk HB; have BK := Aside0.mk hb; obtain ⟨k0, k1, k2, k3, k4, k5, k6⟩ := cells7 hb; clear hg hb HB) | (go_at_call 45; refine (is_c _ _).mono ?_; rintro e w' ⟨rfl, rfl⟩) | (go_at_call 43; refine (refspan_c _ _ _ (by omega) (by omega)).mono ?_; rintro e w' ⟨rfl, rfl⟩))
    go_ret
    exact ⟨rfl, XB.out⟩
 ·have z0 : (n == 0) = false := by simpa using hz0
  clear hz0
  by_cases hz1 : ((v.length : Int) == 0) = true
  ·have z1 : ((v.length : Int) == 0) = true := hz1; clear hz1
   have HR : Aside0 (chkB 2 a c v t n o = false) := ⟨by simp_all [chkB, wB] <;> (intros; omega)⟩
   rw [HR.out]
   go_enter Try.func20, Try.ntmps20
   go_wp2_with (first | ((with_reducible refine gate_dst (N := 1) rfl ?_); refine bx_ (N := 1) (cs := #[.int .i64 2, .int .i64 a, .int .i64 c, .slice A v.length cc, .int .i64 t, .int .i64 n, .int .i64 o]) (t := 24) ?_; intro g hg w1 hb HB; have XB := Aside0.mk HB; have BK := Aside0.mk hb; obtain ⟨k0, k1, k2, k3, k4, k5, k6⟩ := cells7 hb; clear hg hb HB) | (go_at_call 45; refine (is_c _ _).mono ?_; rintro e w' ⟨rfl, rfl⟩) | (go_at_call 43; refine (refspan_c _ _ _ (by omega) (by omega)).mono ?_; rintro e w' ⟨rfl, rfl⟩))
   go_ret
   exact ⟨rfl, XB.out⟩
  ·have z1 : ((v.length : Int) == 0) = false := by simpa using hz1
   clear hz1
   have HR : Aside0 (chkB 2 a c v t n o = false) := ⟨by simp_all [chkB, wB] <;> (intros; omega)⟩
   rw [HR.out]
   go_enter Try.func20, Try.ntmps20
   go_wp2_with (first | ((with_reducible refine gate_dst (N := 1) rfl ?_); refine bx_ (N := 1) (cs := #[.int .i64 2, .int .i64 a, .int .i64 c, .slice A v.length cc, .int .i64 t, .int .i64 n, .int .i64 o]) (t := 24) ?_; intro g hg w1 hb HB; have XB := Aside0.mk HB; have BK := Aside0.mk hb; obtain ⟨k0, k1, k2, k3, k4, k5, k6⟩ := cells7 hb; clear hg hb HB) | (go_at_call 45; refine (is_c _ _).mono ?_; rintro e w' ⟨rfl, rfl⟩) | (go_at_call 43; refine (refspan_c _ _ _ (by omega) (by omega)).mono ?_; rintro e w' ⟨rfl, rfl⟩))
   go_ret
   exact ⟨rfl, XB.out⟩
end Go.Proofs.Ytocicifgglkaeaa.Chk
end

section
namespace Go.Proofs.Ytocicifgglkaeaa.Chk
open Go.RowKit Go.Proofs.YtocicifgglkaeaaW.PrintWords Go.Proofs.YtocicifgglkaeaaW.PrintLast Go.Proofs.YtocicifgglkaeaaW.PrintMore Go.Proofs.Ytocicifgglkaeaa.Core Go.Proofs.Ytocicifgglkaeaa.Wk
set_option linter.unusedVariables false
set_option linter.unusedSimpArgs false
set_option maxHeartbeats 4000000 in
set_option maxRecDepth 100000 in
theorem may_3 (a c : Int) (A : Option Addr) (cc : Nat) (v : List Int) (t n o : Int) (w : World) (hV : Kd.C (Kd.int .i64) w A v.length v) : Calls Try.prog 20 #[.agg #[.int .i64 3, .int .i64 a, .int .i64 c, .slice A v.length cc, .int .i64 t, .int .i64 n, .int .i64 o]] w fun e w' => e = .returned (.bool (chkB 3 a c v t n o)) ∧ Below w.heap.size w w' := by
 have HV := Aside0.mk hV; clear hV
 by_cases hz0 : (n == 0) = true
 ·have z0 : (n == 0) = true := hz0; clear hz0
  by_cases hz1 : (o == 0) = true
  ·have z1 : (o == 0) = true := hz1; clear hz1
   by_cases hz2 : ((v.length : Int) == 0) = true
   ·have z2 : ((v.length : Int) == 0) = true := hz2; clear hz2
    by_cases hz3 : (t == 0) = true
    ·have z3 : (t == 0) = true := hz3; clear hz3
     by_cases hz4 : decide (1 ≤ c) = true
     ·have z4 : decide (1 ≤ c) = true := hz4; clear hz4; have pz4 := of_decide_eq_true z4
      by_cases hz5 : decide (c ≤ 125) = true
      ·have z5 : decide (c ≤ 125) = true := hz5; clear hz5; have pz5 := of_decide_eq_true z5
       by_cases hz6 : spB a c = true
       ·have z6 : spB a c = true := hz6; clear hz6
        have HR : Aside0 (chkB 3 a c v t n o = true) := ⟨by simp_all [chkB, wB] <;> (intros; omega)⟩
        rw [HR.out]
        go_enter Try.func20, Try.ntmps20
        go_wp2_with (first | ((with_reducible refine gate_dst (N := 1) rfl ?_); refine bx_ (N := 1) (cs := #[.int .i64 3, .int .i64 a, .int .i64 c, .slice A v.length cc, .int .i64 t, .int .i64 n, .int .i64 o]) (t := 24) ?_; intro g hg w1 hb HB; have XB := Aside0.mk HB; have BK := Aside0.mk hb; obtain ⟨k0, k1, k2, k3, k4, k5, k6⟩ := cells7 hb; clear hg hb HB) | (go_at_call 45; refine (is_c _ _).mono ?_; rintro e w' ⟨rfl, rfl⟩) | (go_at_call 43; refine (refspan_c _ _ _ (by omega) (by omega)).mono ?_; rintro e w' ⟨rfl, rfl⟩))
        go_ret
        exact ⟨rfl, XB.out⟩
       ·have z6 : spB a c = false := by simpa using hz6
        clear hz6
        have HR : Aside0 (chkB 3 a c v t n o = false) := ⟨by simp_all [chkB, wB] <;> (intros; omega)⟩
        rw [HR.out]
        go_enter Try.func20, Try.ntmps20
        go_wp2_with (first | ((with_reducible refine gate_dst (N := 1) rfl ?_); refine bx_ (N := 1) (cs := #[.int .i64 3, .int .i64 a, .int .i64 c, .slice A v.length cc, .int .i64 t, .int .i64 n, .int .i64 o]) (t := 24) ?_; intro g hg w1 hb HB; have XB := Aside0.mk HB; have BK := Aside0.mk hb; obtain ⟨k0, k1, k2, k3, k4, k5, k6⟩ := cells7 hb; clear hg hb HB) | (go_at_call 45; refine (is_c _ _).mono ?_; rintro e w' ⟨rfl, rfl⟩) | (go_at_call 43; refine (refspan_c _ _ _ (by omega) (by omega)).mono ?_; rintro e w' ⟨rfl, rfl⟩))
        go_ret
        exact ⟨rfl, XB.out⟩
      ·have z5 : decide (c ≤ 125) = false := by simpa using hz5
       clear hz5
       have HR : Aside0 (chkB 3 a c v t n o = false) := ⟨by simp_all [chkB, wB] <;> (intros; omega)⟩
       rw [HR.out]
       go_enter Try.func20, Try.ntmps20
       go_wp2_with (first | ((with_reducible refine gate_dst (N := 1) rfl ?_); refine bx_ (N := 1) (cs := #[.int .i64 3, .int .i64 a, .int .i64 c, .slice A v.length cc, .int .i64 t, .int .i64 n, .int .i64 o]) (t := 24) ?_; intro g hg w1 hb HB; have XB := Aside0.mk HB; have BK := Aside0.mk hb; obtain ⟨k0, k1, k2, k3, k4, k5, k6⟩ := cells7 hb; clear hg hb HB) | (go_at_call 45; refine (is_c _ _).mono ?_; rintro e w' ⟨rfl, rfl⟩) | (go_at_call 43; refine (refspan_c _ _ _ (by omega) (by omega)).mono ?_; rintro e w' ⟨rfl, rfl⟩))
       go_ret
       exact ⟨rfl, XB.out⟩
     ·have z4 : decide (1 ≤ c) = false := by simpa using hz4
      clear hz4
      have HR : Aside0 (chkB 3 a c v t n o = false) := ⟨by simp_all [chkB, wB] <;> (intros; omega)⟩
      rw [HR.out]
      go_enter Try.func20, Try.ntmps20
      go_wp2_with (first | ((with_reducible refine gate_dst (N := 1) rfl ?_); refine bx_ (N := 1) (cs := #[.int .i64 3, .int .i64 a, .int .i64 c, .slice A v.length cc, .int .i64 t, .int .i64 n, .int .i64 o]) (t := 24) ?_; intro g hg w1 hb HB; have XB := Aside0.mk HB; have BK := Aside0.mk hb; obtain ⟨k0, k1, k2, k3, k4, k5, k6⟩ := cells7 hb; clear hg hb HB) | (go_at_call 45; refine (is_c _ _).mono ?_; rintro e w' ⟨rfl, rfl⟩) | (go_at_call 43; refine (refspan_c _ _ _ (by omega) (by omega)).mono ?_; rintro e w' ⟨rfl, rfl⟩))
      go_ret
      exact ⟨rfl, XB.out⟩
    ·have z3 : (t == 0) = false := by simpa using hz3
     clear hz3
     have HR : Aside0 (chkB 3 a c v t n o = false) := ⟨by simp_all [chkB, wB] <;> (intros; omega)⟩
     rw [HR.out]
     go_enter Try.func20, Try.ntmps20
     go_wp2_with (first | ((with_reducible refine gate_dst (N := 1) rfl ?_); refine bx_ (N := 1) (cs := #[.int .i64 3, .int .i64 a, .int .i64 c, .slice A v.length cc, .int .i64 t, .int .i64 n, .int .i64 o]) (t := 24) ?_; intro g hg w1 hb HB; have XB := Aside0.mk HB; have BK := Aside0.mk hb; obtain ⟨k0, k1, k2, k3, k4, k5, k6⟩ := cells7 hb; clear hg hb HB) | (go_at_call 45; refine (is_c _ _).mono ?_; rintro e w' ⟨rfl, rfl⟩) | (go_at_call 43; refine (refspan_c _ _ _ (by omega) (by omega)).mono ?_; rintro e w' ⟨rfl, rfl⟩))
     go_ret
     exact ⟨rfl, XB.out⟩
   ·have z2 : ((v.length : Int) == 0) = false := by simpa using hz2
    clear hz2
    have HR : Aside0 (chkB 3 a c v t n o = false) := ⟨by simp_all [chkB, wB] <;> (intros; omega)⟩
    rw [HR.out]
    go_enter Try.func20, Try.ntmps20
    go_wp2_with (first | ((with_reducible refine gate_dst (N := 1) rfl ?_); refine bx_ (N := 1) (cs := #[.int .i64 3, .int .i64 a, .int .i64 c, .slice A v.length cc, .int .i64 t, .int .i64 n, .int .i64 o]) (t := 24) ?_; intro g hg w1 hb HB; have XB := Aside0.mk HB; have BK := Aside0.mk hb; obtain ⟨k0, k1, k2, k3, k4, k5, k6⟩ := cells7 hb; clear hg hb HB) | (go_at_call 45; refine (is_c _ _).mono ?_; rintro e w' ⟨rfl, rfl⟩) | (go_at_call 43; refine (refspan_c _ _ _ (by omega) (by omega)).mono ?_; rintro e w' ⟨rfl, rfl⟩))
    go_ret
    exact ⟨rfl, XB.out⟩
  ·have z1 : (o == 0) = false := by simpa using hz1
   clear hz1
   by_cases hz2 : ((v.length : Int) == 0) = true
   ·have z2 : ((v.length : Int) == 0) = true := hz2; clear hz2
    have HR : Aside0 (chkB 3 a c v t n o = false) := ⟨by simp_all [chkB, wB] <;> (intros; omega)⟩
    rw [HR.out]
    go_enter Try.func20, Try.ntmps20
    go_wp2_with (first | ((with_reducible refine gate_dst (N := 1) rfl ?_); refine bx_ (N := 1) (cs := #[.int .i64 3, .int .i64 a, .int .i64 c, .slice A v.length cc, .int .i64 t, .int .i64 n, .int .i64 o]) (t := 24) ?_; intro g hg w1 hb HB; have XB := Aside0.mk HB; have BK := Aside0.mk hb; obtain ⟨k0, k1, k2, k3, k4, k5, k6⟩ := cells7 hb; clear hg hb HB) | (go_at_call 45; refine (is_c _ _).mono ?_; rintro e w' ⟨rfl, rfl⟩) | (go_at_call 43; refine (refspan_c _ _ _ (by omega) (by omega)).mono ?_; rintro e w' ⟨rfl, rfl⟩))
    go_ret
    exact ⟨rfl, XB.out⟩
   ·have z2 : ((v.length : Int) == 0) = false := by simpa using hz2
    clear hz2
    have HR : Aside0 (chkB 3 a c v t n o = false) := ⟨by simp_all [chkB, wB] <;> (intros; omega)⟩
    rw [HR.out]
    go_enter Try.func20, Try.ntmps20
    go_wp2_with (first | ((with_reducible refine gate_dst (N := 1) rfl ?_); refine bx_ (N := 1) (cs := #[.int .i64 3, .int .i64 a, .int .i64 c, .slice A v.length cc, .int .i64 t, .int .i64 n, .int .i64 o]) (t := 24) ?_; intro g hg w1 hb HB; have XB := Aside0.mk HB; have BK := Aside0.mk hb; obtain ⟨k0, k1, k2, k3, k4, k5, k6⟩ := cells7 hb; clear hg hb HB) | (go_at_call 45; refine (is_c _ _).mono ?_; rintro e w' ⟨rfl, rfl⟩) | (go_at_call 43; refine (refspan_c _ _ _ (by omega) (by omega)).mono ?_; rintro e w' ⟨rfl, rfl⟩))
    go_ret
    exact ⟨rfl, XB.out⟩
 ·have z0 : (n == 0) = false := by simpa using hz0
  clear hz0
  by_cases hz1 : ((v.length : Int) == 0) = true
  ·have z1 : ((v.length : Int) == 0) = true := hz1; clear hz1
   have HR : Aside0 (chkB 3 a c v t n o = false) := ⟨by simp_all [chkB, wB] <;> (intros; omega)⟩
   rw [HR.out]
   go_enter Try.func20, Try.ntmps20
   go_wp2_with (first | ((with_reducible refine gate_dst (N := 1) rfl ?_); refine bx_ (N := 1) (cs := #[.int .i64 3, .int .i64 a, .int .i64 c, .slice A v.length cc, .int .i64 t, .int .i64 n, .int .i64 o]) (t := 24) ?_; intro g hg w1 hb HB; have XB := Aside0.mk HB; have BK := Aside0.mk hb; obtain ⟨k0, k1, k2, k3, k4, k5, k6⟩ := cells7 hb; clear hg hb HB) | (go_at_call 45; refine (is_c _ _).mono ?_; rintro e w' ⟨rfl, rfl⟩) | (go_at_call 43; refine (refspan_c _ _ _ (by omega) (by omega)).mono ?_; rintro e w' ⟨rfl, rfl⟩))
   go_ret
   exact ⟨rfl, XB.out⟩
  ·have z1 : ((v.length : Int) == 0) = false := by simpa using hz1
   clear hz1
   have HR : Aside0 (chkB 3 a c v t n o = false) := ⟨by simp_all [chkB, wB] <;> (intros; omega)⟩
   rw [HR.out]
   go_enter Try.func20, Try.ntmps20
   go_wp2_with (first | ((with_reducible refine gate_dst (N := 1) rfl ?_); refine bx_ (N := 1) (cs := #[.int .i64 3, .int .i64 a, .int .i64 c, .slice A v.length cc, .int .i64 t, .int .i64 n, .int .i64 o]) (t := 24) ?_; intro g hg w1 hb HB; have XB := Aside0.mk HB; have BK := Aside0.mk hb; obtain ⟨k0, k1, k2, k3, k4, k5, k6⟩ := cells7 hb; clear hg hb HB) | (go_at_call 45; refine (is_c _ _).mono ?_; rintro e w' ⟨rfl, rfl⟩) | (go_at_call 43; refine (refspan_c _ _ _ (by omega) (by omega)).mono ?_; rintro e w' ⟨rfl, rfl⟩))
   go_ret
   exact ⟨rfl, XB.out⟩
set_option maxHeartbeats 4000000 in
set_option maxRecDepth 100000 in
theorem may_4 (a c : Int) (A : Option Addr) (cc : Nat) (v : List Int) (t n o : Int) (w : World) (hV : Kd.C (Kd.int .i64) w A v.length v) : Calls Try.prog 20 #[.agg #[.int .i64 4, .int .i64 a, .int .i64 c, .slice A v.length cc, .int .i64 t, .int .i64 n, .int .i64 o]] w fun e w' => e = .returned (.bool (chkB 4 a c v t n o)) ∧ Below w.heap.size w w' := by
 have HV := Aside0.mk hV; clear hV
 by_cases hz0 : (n == 0) = true
 ·have z0 : (n == 0) = true := hz0; clear hz0
  by_cases hz1 : (o == 0) = true
  ·have z1 : (o == 0) = true := hz1; clear hz1
   by_cases hz2 : ((v.length : Int) == 0) = true
   ·have z2 : ((v.length : Int) == 0) = true := hz2; clear hz2
    by_cases hz3 : (t == 0) = true
    ·have z3 : (t == 0) = true := hz3; clear hz3
     by_cases hz4 : decide (1 ≤ c) = true
     ·have z4 : decide (1 ≤ c) = true := hz4; clear hz4; have pz4 := of_decide_eq_true z4
      by_cases hz5 : decide (c ≤ 125) = true
      ·have z5 : decide (c ≤ 125) = true := hz5; clear hz5; have pz5 := of_decide_eq_true z5
       by_cases hz6 : spB a c = true
       ·have z6 : spB a c = true := hz6; clear hz6
        have HR : Aside0 (chkB 4 a c v t n o = true) := ⟨by simp_all [chkB, wB] <;> (intros; omega)⟩
        rw [HR.out]
        go_enter Try.func20, Try.ntmps20
        go_wp2_with (first | ((with_reducible refine gate_dst (N := 1) rfl ?_); refine bx_ (N := 1) (cs := #[.int .i64 4, .int .i64 a, .int .i64 c, .slice A v.length cc, .int .i64 t, .int .i64 n, .int .i64 o]) (t := 24) ?_; intro g hg w1 hb HB; have XB := Aside0.mk HB; have BK := Aside0.mk hb; obtain ⟨k0, k1, k2, k3, k4, k5, k6⟩ := cells7 hb; clear hg hb HB) | (go_at_call 45; refine (is_c _ _).mono ?_; rintro e w' ⟨rfl, rfl⟩) | (go_at_call 43; refine (refspan_c _ _ _ (by omega) (by omega)).mono ?_; rintro e w' ⟨rfl, rfl⟩))
        go_ret
        exact ⟨rfl, XB.out⟩
       ·have z6 : spB a c = false := by simpa using hz6
        clear hz6
        have HR : Aside0 (chkB 4 a c v t n o = false) := ⟨by simp_all [chkB, wB] <;> (intros; omega)⟩
        rw [HR.out]
        go_enter Try.func20, Try.ntmps20
        go_wp2_with (first | ((with_reducible refine gate_dst (N := 1) rfl ?_); refine bx_ (N := 1) (cs := #[.int .i64 4, .int .i64 a, .int .i64 c, .slice A v.length cc, .int .i64 t, .int .i64 n, .int .i64 o]) (t := 24) ?_; intro g hg w1 hb HB; have XB := Aside0.mk HB; have BK := Aside0.mk hb; obtain ⟨k0, k1, k2, k3, k4, k5, k6⟩ := cells7 hb; clear hg hb HB) | (go_at_call 45; refine (is_c _ _).mono ?_; rintro e w' ⟨rfl, rfl⟩) | (go_at_call 43; refine (refspan_c _ _ _ (by omega) (by omega)).mono ?_; rintro e w' ⟨rfl, rfl⟩))
        go_ret
        exact ⟨rfl, XB.out⟩
      ·have z5 : decide (c ≤ 125) = false := by simpa using hz5
       clear hz5
       have HR : Aside0 (chkB 4 a c v t n o = false) := ⟨by simp_all [chkB, wB] <;> (intros; omega)⟩
       rw [HR.out]
       go_enter Try.func20, Try.ntmps20
       go_wp2_with (first | ((with_reducible refine gate_dst (N := 1) rfl ?_); refine bx_ (N := 1) (cs := #[.int .i64 4, .int .i64 a, .int .i64 c, .slice A v.length cc, .int .i64 t, .int .i64 n, .int .i64 o]) (t := 24) ?_; intro g hg w1 hb HB; have XB := Aside0.mk HB; have BK := Aside0.mk hb; obtain ⟨k0, k1, k2, k3, k4, k5, k6⟩ := cells7 hb; clear hg hb HB) | (go_at_call 45; refine (is_c _ _).mono ?_; rintro e w' ⟨rfl, rfl⟩) | (go_at_call 43; refine (refspan_c _ _ _ (by omega) (by omega)).mono ?_; rintro e w' ⟨rfl, rfl⟩))
       go_ret
       exact ⟨rfl, XB.out⟩
     ·have z4 : decide (1 ≤ c) = false := by simpa using hz4
      clear hz4
      have HR : Aside0 (chkB 4 a c v t n o = false) := ⟨by simp_all [chkB, wB] <;> (intros; omega)⟩
      rw [HR.out]
      go_enter Try.func20, Try.ntmps20
      go_wp2_with (first | ((with_reducible refine gate_dst (N := 1) rfl ?_); refine bx_ (N := 1) (cs := #[.int .i64 4, .int .i64 a, .int .i64 c, .slice A v.length cc, .int .i64 t, .int .i64 n, .int .i64 o]) (t := 24) ?_; intro g hg w1 hb HB; have XB := Aside0.mk HB; have BK := Aside0.mk hb; obtain ⟨k0, k1, k2, k3, k4, k5, k6⟩ := cells7 hb; clear hg hb HB) | (go_at_call 45; refine (is_c _ _).mono ?_; rintro e w' ⟨rfl, rfl⟩) | (go_at_call 43; refine (refspan_c _ _ _ (by omega) (by omega)).mono ?_; rintro e w' ⟨rfl, rfl⟩))
      go_ret
      exact ⟨rfl, XB.out⟩
    ·have z3 : (t == 0) = false := by simpa using hz3
     clear hz3
     have HR : Aside0 (chkB 4 a c v t n o = false) := ⟨by simp_all [chkB, wB] <;> (intros; omega)⟩
     rw [HR.out]
     go_enter Try.func20, Try.ntmps20
     go_wp2_with (first | ((with_reducible refine gate_dst (N := 1) rfl ?_); refine bx_ (N := 1) (cs := #[.int .i64 4, .int .i64 a, .int .i64 c, .slice A v.length cc, .int .i64 t, .int .i64 n, .int .i64 o]) (t := 24) ?_; intro g hg w1 hb HB; have XB := Aside0.mk HB; have BK := Aside0.mk hb; obtain ⟨k0, k1, k2, k3, k4, k5, k6⟩ := cells7 hb; clear hg hb HB) | (go_at_call 45; refine (is_c _ _).mono ?_; rintro e w' ⟨rfl, rfl⟩) | (go_at_call 43; refine (refspan_c _ _ _ (by omega) (by omega)).mono ?_; rintro e w' ⟨rfl, rfl⟩))
     go_ret
     exact ⟨rfl, XB.out⟩
   ·have z2 : ((v.length : Int) == 0) = false := by simpa using hz2
    clear hz2
    have HR : Aside0 (chkB 4 a c v t n o = false) := ⟨by simp_all [chkB, wB] <;> (intros; omega)⟩
    rw [HR.out]
    go_enter Try.func20, Try.ntmps20
    go_wp2_with (first | ((with_reducible refine gate_dst (N := 1) rfl ?_); refine bx_ (N := 1) (cs := #[.int .i64 4, .int .i64 a, .int .i64 c, .slice A v.length cc, .int .i64 t, .int .i64 n, .int .i64 o]) (t := 24) ?_; intro g hg w1 hb HB; have XB := Aside0.mk HB; have BK := Aside0.mk hb; obtain ⟨k0, k1, k2, k3, k4, k5, k6⟩ := cells7 hb; clear hg hb HB) | (go_at_call 45; refine (is_c _ _).mono ?_; rintro e w' ⟨rfl, rfl⟩) | (go_at_call 43; refine (refspan_c _ _ _ (by omega) (by omega)).mono ?_; rintro e w' ⟨rfl, rfl⟩))
    go_ret
    exact ⟨rfl, XB.out⟩
  ·have z1 : (o == 0) = false := by simpa using hz1
   clear hz1
   by_cases hz2 : ((v.length : Int) == 0) = true
   ·have z2 : ((v.length : Int) == 0) = true := hz2; clear hz2
    have HR : Aside0 (chkB 4 a c v t n o = false) := ⟨by simp_all [chkB, wB] <;> (intros; omega)⟩
    rw [HR.out]
    go_enter Try.func20, Try.ntmps20
    go_wp2_with (first | ((with_reducible refine gate_dst (N := 1) rfl ?_); refine bx_ (N := 1) (cs := #[.int .i64 4, .int .i64 a, .int .i64 c, .slice A v.length cc, .int .i64 t, .int .i64 n, .int .i64 o]) (t := 24) ?_; intro g hg w1 hb HB; have XB := Aside0.mk HB; have BK := Aside0.mk hb; obtain ⟨k0, k1, k2, k3, k4, k5, k6⟩ := cells7 hb; clear hg hb HB) | (go_at_call 45; refine (is_c _ _).mono ?_; rintro e w' ⟨rfl, rfl⟩) | (go_at_call 43; refine (refspan_c _ _ _ (by omega) (by omega)).mono ?_; rintro e w' ⟨rfl, rfl⟩))
    go_ret
    exact ⟨rfl, XB.out⟩
   ·have z2 : ((v.length : Int) == 0) = false := by simpa using hz2
    clear hz2
    have HR : Aside0 (chkB 4 a c v t n o = false) := ⟨by simp_all [chkB, wB] <;> (intros; omega)⟩
    rw [HR.out]
    go_enter Try.func20, Try.ntmps20
    go_wp2_with (first | ((with_reducible refine gate_dst (N := 1) rfl ?_); refine bx_ (N := 1) (cs := #[.int .i64 4, .int .i64 a, .int .i64 c, .slice A v.length cc, .int .i64 t, .int .i64 n, .int .i64 o]) (t := 24) ?_; intro g hg w1 hb HB; have XB := Aside0.mk HB; have BK := Aside0.mk hb; obtain ⟨k0, k1, k2, k3, k4, k5, k6⟩ := cells7 hb; clear hg hb HB) | (go_at_call 45; refine (is_c _ _).mono ?_; rintro e w' ⟨rfl, rfl⟩) | (go_at_call 43; refine (refspan_c _ _ _ (by omega) (by omega)).mono ?_; rintro e w' ⟨rfl, rfl⟩))
    go_ret
    exact ⟨rfl, XB.out⟩
 ·have z0 : (n == 0) = false := by simpa using hz0
  clear hz0
  by_cases hz1 : ((v.length : Int) == 0) = true
  ·have z1 : ((v.length : Int) == 0) = true := hz1; clear hz1
   have HR : Aside0 (chkB 4 a c v t n o = false) := ⟨by simp_all [chkB, wB] <;> (intros; omega)⟩
   rw [HR.out]
   go_enter Try.func20, Try.ntmps20
   go_wp2_with (first | ((with_reducible refine gate_dst (N := 1) rfl ?_); refine bx_ (N := 1) (cs := #[.int .i64 4, .int .i64 a, .int .i64 c, .slice A v.length cc, .int .i64 t, .int .i64 n, .int .i64 o]) (t := 24) ?_; intro g hg w1 hb HB; have XB := Aside0.mk HB; have BK := Aside0.mk hb; obtain ⟨k0, k1, k2, k3, k4, k5, k6⟩ := cells7 hb; clear hg hb HB) | (go_at_call 45; refine (is_c _ _).mono ?_; rintro e w' ⟨rfl, rfl⟩) | (go_at_call 43; refine (refspan_c _ _ _ (by omega) (by omega)).mono ?_; rintro e w' ⟨rfl, rfl⟩))
   go_ret
   exact ⟨rfl, XB.out⟩
  ·have z1 : ((v.length : Int) == 0) = false := by simpa using hz1
   clear hz1
   have HR : Aside0 (chkB 4 a c v t n o = false) := ⟨by simp_all [chkB, wB] <;> (intros; omega)⟩
   rw [HR.out]
   go_enter Try.func20, Try.ntmps20
   go_wp2_with (first | ((with_reducible refine gate_dst (N := 1) rfl ?_); refine bx_ (N := 1) (cs := #[.int .i64 4, .int .i64 a, .int .i64 c, .slice A v.length cc, .int .i64 t, .int .i64 n, .int .i64 o]) (t := 24) ?_; intro g hg w1 hb HB; have XB := Aside0.mk HB; have BK := Aside0.mk hb; obtain ⟨k0, k1, k2, k3, k4, k5, k6⟩ := cells7 hb; clear hg hb HB) | (go_at_call 45; refine (is_c _ _).mono ?_; rintro e w' ⟨rfl, rfl⟩) | (go_at_call 43; refine (refspan_c _ _ _ (by omega) (by omega)).mono ?_; rintro e w' ⟨rfl, rfl⟩))
   go_ret
   exact ⟨rfl, XB.out⟩
end Go.Proofs.Ytocicifgglkaeaa.Chk
end

section
namespace Go.Proofs.Ytocicifgglkaeaa.Chk
open Go.RowKit Go.Proofs.YtocicifgglkaeaaW.PrintWords Go.Proofs.YtocicifgglkaeaaW.PrintLast Go.Proofs.YtocicifgglkaeaaW.PrintMore Go.Proofs.Ytocicifgglkaeaa.Core Go.Proofs.Ytocicifgglkaeaa.Wk
set_option linter.unusedVariables false
set_option linter.unusedSimpArgs false
set_option maxHeartbeats 4000000 in
set_option maxRecDepth 100000 in
theorem may_5 (a c : Int) (A : Option Addr) (cc : Nat) (v : List Int) (t n o : Int) (w : World) (hV : Kd.C (Kd.int .i64) w A v.length v) : Calls Try.prog 20 #[.agg #[.int .i64 5, .int .i64 a, .int .i64 c, .slice A v.length cc, .int .i64 t, .int .i64 n, .int .i64 o]] w fun e w' => e = .returned (.bool (chkB 5 a c v t n o)) ∧ Below w.heap.size w w' := by
 have HV := Aside0.mk hV; clear hV
 by_cases hz0 : (n == 0) = true
 ·have z0 : (n == 0) = true := hz0; clear hz0
  by_cases hz1 : (o == 0) = true
  ·have z1 : (o == 0) = true := hz1; clear hz1
   by_cases hz2 : (t == 0) = true
   ·have z2 : (t == 0) = true := hz2; clear hz2
    by_cases hz3 : (c == 0) = true
    ·have z3 : (c == 0) = true := hz3; clear hz3
     by_cases hz4 : smB 1 1 1 v = true
     ·have z4 : smB 1 1 1 v = true := hz4; clear hz4; have pz4 := smB_len z4
      by_cases hz5 : spB a 1 = true
      ·have z5 : spB a 1 = true := hz5; clear hz5
       have HR : Aside0 (chkB 5 a c v t n o = true) := ⟨by simp_all [chkB, wB] <;> (intros; omega)⟩
       rw [HR.out]
       go_enter Try.func20, Try.ntmps20
       go_wp2_with (first | ((with_reducible refine gate_dst (N := 1) rfl ?_); refine bx_ (N := 1) (cs := #[.int .i64 5, .int .i64 a, .int .i64 c, .slice A v.length cc, .int .i64 t, .int .i64 n, .int .i64 o]) (t := 24) ?_; intro g hg w1 hb HB; have XB := Aside0.mk HB; have BK := Aside0.mk hb; obtain ⟨k0, k1, k2, k3, k4, k5, k6⟩ := cells7 hb; clear hg hb HB) | (go_at_call 45; refine (is_c _ _).mono ?_; rintro e w' ⟨rfl, rfl⟩) | (go_at_call 43; refine (refspan_c _ _ _ (by omega) (by omega)).mono ?_; rintro e w' ⟨rfl, rfl⟩) | (go_at_call 44; refine (vals_c 5 a c A cc v t n o _ _ _ (Kd.C_below HV.out XB.out) (m := 1) (by decide)).mono ?_; rintro e w2 ⟨rfl, HB⟩; have XBn := Aside0.mk (below_step XB.out HB); have BKn := Aside0.mk (blk_below BK.out HB); obtain ⟨k0, k1, k2, k3, k4, k5, k6⟩ := cells7 BKn.out; clear HB XB BK; have XB := XBn; have BK := BKn))
       go_ret
       exact ⟨rfl, XB.out⟩
      ·have z5 : spB a 1 = false := by simpa using hz5
       clear hz5
       have HR : Aside0 (chkB 5 a c v t n o = false) := ⟨by simp_all [chkB, wB] <;> (intros; omega)⟩
       rw [HR.out]
       go_enter Try.func20, Try.ntmps20
       go_wp2_with (first | ((with_reducible refine gate_dst (N := 1) rfl ?_); refine bx_ (N := 1) (cs := #[.int .i64 5, .int .i64 a, .int .i64 c, .slice A v.length cc, .int .i64 t, .int .i64 n, .int .i64 o]) (t := 24) ?_; intro g hg w1 hb HB; have XB := Aside0.mk HB; have BK := Aside0.mk hb; obtain ⟨k0, k1, k2, k3, k4, k5, k6⟩ := cells7 hb; clear hg hb HB) | (go_at_call 45; refine (is_c _ _).mono ?_; rintro e w' ⟨rfl, rfl⟩) | (go_at_call 43; refine (refspan_c _ _ _ (by omega) (by omega)).mono ?_; rintro e w' ⟨rfl, rfl⟩) | (go_at_call 44; refine (vals_c 5 a c A cc v t n o _ _ _ (Kd.C_below HV.out XB.out) (m := 1) (by decide)).mono ?_; rintro e w2 ⟨rfl, HB⟩; have XBn := Aside0.mk (below_step XB.out HB); have BKn := Aside0.mk (blk_below BK.out HB); obtain ⟨k0, k1, k2, k3, k4, k5, k6⟩ := cells7 BKn.out; clear HB XB BK; have XB := XBn; have BK := BKn))
       go_ret
       exact ⟨rfl, XB.out⟩
     ·have z4 : smB 1 1 1 v = false := by simpa using hz4
      clear hz4
      have HR : Aside0 (chkB 5 a c v t n o = false) := ⟨by simp_all [chkB, wB] <;> (intros; omega)⟩
      rw [HR.out]
      go_enter Try.func20, Try.ntmps20
      go_wp2_with (first | ((with_reducible refine gate_dst (N := 1) rfl ?_); refine bx_ (N := 1) (cs := #[.int .i64 5, .int .i64 a, .int .i64 c, .slice A v.length cc, .int .i64 t, .int .i64 n, .int .i64 o]) (t := 24) ?_; intro g hg w1 hb HB; have XB := Aside0.mk HB; have BK := Aside0.mk hb; obtain ⟨k0, k1, k2, k3, k4, k5, k6⟩ := cells7 hb; clear hg hb HB) | (go_at_call 45; refine (is_c _ _).mono ?_; rintro e w' ⟨rfl, rfl⟩) | (go_at_call 43; refine (refspan_c _ _ _ (by omega) (by omega)).mono ?_; rintro e w' ⟨rfl, rfl⟩) | (go_at_call 44; refine (vals_c 5 a c A cc v t n o _ _ _ (Kd.C_below HV.out XB.out) (m := 1) (by decide)).mono ?_; rintro e w2 ⟨rfl, HB⟩; have XBn := Aside0.mk (below_step XB.out HB); have BKn := Aside0.mk (blk_below BK.out HB); obtain ⟨k0, k1, k2, k3, k4, k5, k6⟩ := cells7 BKn.out; clear HB XB BK; have XB := XBn; have BK := BKn))
      go_ret
      exact ⟨rfl, XB.out⟩
    ·have z3 : (c == 0) = false := by simpa using hz3
     clear hz3
     have HR : Aside0 (chkB 5 a c v t n o = false) := ⟨by simp_all [chkB, wB] <;> (intros; omega)⟩
     rw [HR.out]
     go_enter Try.func20, Try.ntmps20
     go_wp2_with (first | ((with_reducible refine gate_dst (N := 1) rfl ?_); refine bx_ (N := 1) (cs := #[.int .i64 5, .int .i64 a, .int .i64 c, .slice A v.length cc, .int .i64 t, .int .i64 n, .int .i64 o]) (t := 24) ?_; intro g hg w1 hb HB; have XB := Aside0.mk HB; have BK := Aside0.mk hb; obtain ⟨k0, k1, k2, k3, k4, k5, k6⟩ := cells7 hb; clear hg hb HB) | (go_at_call 45; refine (is_c _ _).mono ?_; rintro e w' ⟨rfl, rfl⟩) | (go_at_call 43; refine (refspan_c _ _ _ (by omega) (by omega)).mono ?_; rintro e w' ⟨rfl, rfl⟩) | (go_at_call 44; refine (vals_c 5 a c A cc v t n o _ _ _ (Kd.C_below HV.out XB.out) (m := 1) (by decide)).mono ?_; rintro e w2 ⟨rfl, HB⟩; have XBn := Aside0.mk (below_step XB.out HB); have BKn := Aside0.mk (blk_below BK.out HB); obtain ⟨k0, k1, k2, k3, k4, k5, k6⟩ := cells7 BKn.out; clear HB XB BK; have XB := XBn; have BK := BKn))
     go_ret
     exact ⟨rfl, XB.out⟩
   ·have z2 : (t == 0) = false := by simpa using hz2
    clear hz2
    have HR : Aside0 (chkB 5 a c v t n o = false) := ⟨by simp_all [chkB, wB] <;> (intros; omega)⟩
    rw [HR.out]
    go_enter Try.func20, Try.ntmps20
    go_wp2_with (first | ((with_reducible refine gate_dst (N := 1) rfl ?_); refine bx_ (N := 1) (cs := #[.int .i64 5, .int .i64 a, .int .i64 c, .slice A v.length cc, .int .i64 t, .int .i64 n, .int .i64 o]) (t := 24) ?_; intro g hg w1 hb HB; have XB := Aside0.mk HB; have BK := Aside0.mk hb; obtain ⟨k0, k1, k2, k3, k4, k5, k6⟩ := cells7 hb; clear hg hb HB) | (go_at_call 45; refine (is_c _ _).mono ?_; rintro e w' ⟨rfl, rfl⟩) | (go_at_call 43; refine (refspan_c _ _ _ (by omega) (by omega)).mono ?_; rintro e w' ⟨rfl, rfl⟩) | (go_at_call 44; refine (vals_c 5 a c A cc v t n o _ _ _ (Kd.C_below HV.out XB.out) (m := 1) (by decide)).mono ?_; rintro e w2 ⟨rfl, HB⟩; have XBn := Aside0.mk (below_step XB.out HB); have BKn := Aside0.mk (blk_below BK.out HB); obtain ⟨k0, k1, k2, k3, k4, k5, k6⟩ := cells7 BKn.out; clear HB XB BK; have XB := XBn; have BK := BKn))
    go_ret
    exact ⟨rfl, XB.out⟩
  ·have z1 : (o == 0) = false := by simpa using hz1
   clear hz1
   have HR : Aside0 (chkB 5 a c v t n o = false) := ⟨by simp_all [chkB, wB] <;> (intros; omega)⟩
   rw [HR.out]
   go_enter Try.func20, Try.ntmps20
   go_wp2_with (first | ((with_reducible refine gate_dst (N := 1) rfl ?_); refine bx_ (N := 1) (cs := #[.int .i64 5, .int .i64 a, .int .i64 c, .slice A v.length cc, .int .i64 t, .int .i64 n, .int .i64 o]) (t := 24) ?_; intro g hg w1 hb HB; have XB := Aside0.mk HB; have BK := Aside0.mk hb; obtain ⟨k0, k1, k2, k3, k4, k5, k6⟩ := cells7 hb; clear hg hb HB) | (go_at_call 45; refine (is_c _ _).mono ?_; rintro e w' ⟨rfl, rfl⟩) | (go_at_call 43; refine (refspan_c _ _ _ (by omega) (by omega)).mono ?_; rintro e w' ⟨rfl, rfl⟩) | (go_at_call 44; refine (vals_c 5 a c A cc v t n o _ _ _ (Kd.C_below HV.out XB.out) (m := 1) (by decide)).mono ?_; rintro e w2 ⟨rfl, HB⟩; have XBn := Aside0.mk (below_step XB.out HB); have BKn := Aside0.mk (blk_below BK.out HB); obtain ⟨k0, k1, k2, k3, k4, k5, k6⟩ := cells7 BKn.out; clear HB XB BK; have XB := XBn; have BK := BKn))
   go_ret
   exact ⟨rfl, XB.out⟩
 ·have z0 : (n == 0) = false := by simpa using hz0
  clear hz0
  have HR : Aside0 (chkB 5 a c v t n o = false) := ⟨by simp_all [chkB, wB] <;> (intros; omega)⟩
  rw [HR.out]
  go_enter Try.func20, Try.ntmps20
  go_wp2_with (first | ((with_reducible refine gate_dst (N := 1) rfl ?_); refine bx_ (N := 1) (cs := #[.int .i64 5, .int .i64 a, .int .i64 c, .slice A v.length cc, .int .i64 t, .int .i64 n, .int .i64 o]) (t := 24) ?_; intro g hg w1 hb HB; have XB := Aside0.mk HB; have BK := Aside0.mk hb; obtain ⟨k0, k1, k2, k3, k4, k5, k6⟩ := cells7 hb; clear hg hb HB) | (go_at_call 45; refine (is_c _ _).mono ?_; rintro e w' ⟨rfl, rfl⟩) | (go_at_call 43; refine (refspan_c _ _ _ (by omega) (by omega)).mono ?_; rintro e w' ⟨rfl, rfl⟩) | (go_at_call 44; refine (vals_c 5 a c A cc v t n o _ _ _ (Kd.C_below HV.out XB.out) (m := 1) (by decide)).mono ?_; rintro e w2 ⟨rfl, HB⟩; have XBn := Aside0.mk (below_step XB.out HB); have BKn := Aside0.mk (blk_below BK.out HB); obtain ⟨k0, k1, k2, k3, k4, k5, k6⟩ := cells7 BKn.out; clear HB XB BK; have XB := XBn; have BK := BKn))
  go_ret
  exact ⟨rfl, XB.out⟩
set_option maxHeartbeats 4000000 in
set_option maxRecDepth 100000 in
theorem may_6 (a c : Int) (A : Option Addr) (cc : Nat) (v : List Int) (t n o : Int) (w : World) (hV : Kd.C (Kd.int .i64) w A v.length v) : Calls Try.prog 20 #[.agg #[.int .i64 6, .int .i64 a, .int .i64 c, .slice A v.length cc, .int .i64 t, .int .i64 n, .int .i64 o]] w fun e w' => e = .returned (.bool (chkB 6 a c v t n o)) ∧ Below w.heap.size w w' := by
 have HV := Aside0.mk hV; clear hV
 by_cases hz0 : (n == 0) = true
 ·have z0 : (n == 0) = true := hz0; clear hz0
  by_cases hz1 : (o == 0) = true
  ·have z1 : (o == 0) = true := hz1; clear hz1
   by_cases hz2 : (t == 0) = true
   ·have z2 : (t == 0) = true := hz2; clear hz2
    by_cases hz3 : (c == 0) = true
    ·have z3 : (c == 0) = true := hz3; clear hz3
     by_cases hz4 : smB 1 1 65535 v = true
     ·have z4 : smB 1 1 65535 v = true := hz4; clear hz4; have pz4 := smB_len z4
      by_cases hz5 : spB a 1 = true
      ·have z5 : spB a 1 = true := hz5; clear hz5
       have HR : Aside0 (chkB 6 a c v t n o = true) := ⟨by simp_all [chkB, wB] <;> (intros; omega)⟩
       rw [HR.out]
       go_enter Try.func20, Try.ntmps20
       go_wp2_with (first | ((with_reducible refine gate_dst (N := 1) rfl ?_); refine bx_ (N := 1) (cs := #[.int .i64 6, .int .i64 a, .int .i64 c, .slice A v.length cc, .int .i64 t, .int .i64 n, .int .i64 o]) (t := 24) ?_; intro g hg w1 hb HB; have XB := Aside0.mk HB; have BK := Aside0.mk hb; obtain ⟨k0, k1, k2, k3, k4, k5, k6⟩ := cells7 hb; clear hg hb HB) | (go_at_call 45; refine (is_c _ _).mono ?_; rintro e w' ⟨rfl, rfl⟩) | (go_at_call 43; refine (refspan_c _ _ _ (by omega) (by omega)).mono ?_; rintro e w' ⟨rfl, rfl⟩) | (go_at_call 44; refine (vals_c 6 a c A cc v t n o _ _ _ (Kd.C_below HV.out XB.out) (m := 65535) (by decide)).mono ?_; rintro e w2 ⟨rfl, HB⟩; have XBn := Aside0.mk (below_step XB.out HB); have BKn := Aside0.mk (blk_below BK.out HB); obtain ⟨k0, k1, k2, k3, k4, k5, k6⟩ := cells7 BKn.out; clear HB XB BK; have XB := XBn; have BK := BKn))
       go_ret
       exact ⟨rfl, XB.out⟩
      ·have z5 : spB a 1 = false := by simpa using hz5
       clear hz5
       have HR : Aside0 (chkB 6 a c v t n o = false) := ⟨by simp_all [chkB, wB] <;> (intros; omega)⟩
       rw [HR.out]
       go_enter Try.func20, Try.ntmps20
       go_wp2_with (first | ((with_reducible refine gate_dst (N := 1) rfl ?_); refine bx_ (N := 1) (cs := #[.int .i64 6, .int .i64 a, .int .i64 c, .slice A v.length cc, .int .i64 t, .int .i64 n, .int .i64 o]) (t := 24) ?_; intro g hg w1 hb HB; have XB := Aside0.mk HB; have BK := Aside0.mk hb; obtain ⟨k0, k1, k2, k3, k4, k5, k6⟩ := cells7 hb; clear hg hb HB) | (go_at_call 45; refine (is_c _ _).mono ?_; rintro e w' ⟨rfl, rfl⟩) | (go_at_call 43; refine (refspan_c _ _ _ (by omega) (by omega)).mono ?_; rintro e w' ⟨rfl, rfl⟩) | (go_at_call 44; refine (vals_c 6 a c A cc v t n o _ _ _ (Kd.C_below HV.out XB.out) (m := 65535) (by decide)).mono ?_; rintro e w2 ⟨rfl, HB⟩; have XBn := Aside0.mk (below_step XB.out HB); have BKn := Aside0.mk (blk_below BK.out HB); obtain ⟨k0, k1, k2, k3, k4, k5, k6⟩ := cells7 BKn.out; clear HB XB BK; have XB := XBn; have BK := BKn))
       go_ret
       exact ⟨rfl, XB.out⟩
     ·have z4 : smB 1 1 65535 v = false := by simpa using hz4
      clear hz4
      have HR : Aside0 (chkB 6 a c v t n o = false) := ⟨by simp_all [chkB, wB] <;> (intros; omega)⟩
      rw [HR.out]
      go_enter Try.func20, Try.ntmps20
      go_wp2_with (first | ((with_reducible refine gate_dst (N := 1) rfl ?_); refine bx_ (N := 1) (cs := #[.int .i64 6, .int .i64 a, .int .i64 c, .slice A v.length cc, .int .i64 t, .int .i64 n, .int .i64 o]) (t := 24) ?_; intro g hg w1 hb HB; have XB := Aside0.mk HB; have BK := Aside0.mk hb; obtain ⟨k0, k1, k2, k3, k4, k5, k6⟩ := cells7 hb; clear hg hb HB) | (go_at_call 45; refine (is_c _ _).mono ?_; rintro e w' ⟨rfl, rfl⟩) | (go_at_call 43; refine (refspan_c _ _ _ (by omega) (by omega)).mono ?_; rintro e w' ⟨rfl, rfl⟩) | (go_at_call 44; refine (vals_c 6 a c A cc v t n o _ _ _ (Kd.C_below HV.out XB.out) (m := 65535) (by decide)).mono ?_; rintro e w2 ⟨rfl, HB⟩; have XBn := Aside0.mk (below_step XB.out HB); have BKn := Aside0.mk (blk_below BK.out HB); obtain ⟨k0, k1, k2, k3, k4, k5, k6⟩ := cells7 BKn.out; clear HB XB BK; have XB := XBn; have BK := BKn))
      go_ret
      exact ⟨rfl, XB.out⟩
    ·have z3 : (c == 0) = false := by simpa using hz3
     clear hz3
     have HR : Aside0 (chkB 6 a c v t n o = false) := ⟨by simp_all [chkB, wB] <;> (intros; omega)⟩
     rw [HR.out]
     go_enter Try.func20, Try.ntmps20
     go_wp2_with (first | ((with_reducible refine gate_dst (N := 1) rfl ?_); refine bx_ (N := 1) (cs := #[.int .i64 6, .int .i64 a, .int .i64 c, .slice A v.length cc, .int .i64 t, .int .i64 n, .int .i64 o]) (t := 24) ?_; intro g hg w1 hb HB; have XB := Aside0.mk HB; have BK := Aside0.mk hb; obtain ⟨k0, k1, k2, k3, k4, k5, k6⟩ := cells7 hb; clear hg hb HB) | (go_at_call 45; refine (is_c _ _).mono ?_; rintro e w' ⟨rfl, rfl⟩) | (go_at_call 43; refine (refspan_c _ _ _ (by omega) (by omega)).mono ?_; rintro e w' ⟨rfl, rfl⟩) | (go_at_call 44; refine (vals_c 6 a c A cc v t n o _ _ _ (Kd.C_below HV.out XB.out) (m := 65535) (by decide)).mono ?_; rintro e w2 ⟨rfl, HB⟩; have XBn := Aside0.mk (below_step XB.out HB); have BKn := Aside0.mk (blk_below BK.out HB); obtain ⟨k0, k1, k2, k3, k4, k5, k6⟩ := cells7 BKn.out; clear HB XB BK; have XB := XBn; have BK := BKn))
     go_ret
     exact ⟨rfl, XB.out⟩
   ·have z2 : (t == 0) = false := by simpa using hz2
    clear hz2
    have HR : Aside0 (chkB 6 a c v t n o = false) := ⟨by simp_all [chkB, wB] <;> (intros; omega)⟩
    rw [HR.out]
    go_enter Try.func20, Try.ntmps20
    go_wp2_with (first | ((with_reducible refine gate_dst (N := 1) rfl ?_); refine bx_ (N := 1) (cs := #[.int .i64 6, .int .i64 a, .int .i64 c, .slice A v.length cc, .int .i64 t, .int .i64 n, .int .i64 o]) (t := 24) ?_; intro g hg w1 hb HB; have XB := Aside0.mk HB; have BK := Aside0.mk hb; obtain ⟨k0, k1, k2, k3, k4, k5, k6⟩ := cells7 hb; clear hg hb HB) | (go_at_call 45; refine (is_c _ _).mono ?_; rintro e w' ⟨rfl, rfl⟩) | (go_at_call 43; refine (refspan_c _ _ _ (by omega) (by omega)).mono ?_; rintro e w' ⟨rfl, rfl⟩) | (go_at_call 44; refine (vals_c 6 a c A cc v t n o _ _ _ (Kd.C_below HV.out XB.out) (m := 65535) (by decide)).mono ?_; rintro e w2 ⟨rfl, HB⟩; have XBn := Aside0.mk (below_step XB.out HB); have BKn := Aside0.mk (blk_below BK.out HB); obtain ⟨k0, k1, k2, k3, k4, k5, k6⟩ := cells7 BKn.out; clear HB XB BK; have XB := XBn; have BK := BKn))
    go_ret
    exact ⟨rfl, XB.out⟩
  ·have z1 : (o == 0) = false := by simpa using hz1
   clear hz1
   have HR : Aside0 (chkB 6 a c v t n o = false) := ⟨by simp_all [chkB, wB] <;> (intros; omega)⟩
   rw [HR.out]
   go_enter Try.func20, Try.ntmps20
   go_wp2_with (first | ((with_reducible refine gate_dst (N := 1) rfl ?_); refine bx_ (N := 1) (cs := #[.int .i64 6, .int .i64 a, .int .i64 c, .slice A v.length cc, .int .i64 t, .int .i64 n, .int .i64 o]) (t := 24) ?_; intro g hg w1 hb HB; have XB := Aside0.mk HB; have BK := Aside0.mk hb; obtain ⟨k0, k1, k2, k3, k4, k5, k6⟩ := cells7 hb; clear hg hb HB) | (go_at_call 45; refine (is_c _ _).mono ?_; rintro e w' ⟨rfl, rfl⟩) | (go_at_call 43; refine (refspan_c _ _ _ (by omega) (by omega)).mono ?_; rintro e w' ⟨rfl, rfl⟩) | (go_at_call 44; refine (vals_c 6 a c A cc v t n o _ _ _ (Kd.C_below HV.out XB.out) (m := 65535) (by decide)).mono ?_; rintro e w2 ⟨rfl, HB⟩; have XBn := Aside0.mk (below_step XB.out HB); have BKn := Aside0.mk (blk_below BK.out HB); obtain ⟨k0, k1, k2, k3, k4, k5, k6⟩ := cells7 BKn.out; clear HB XB BK; have XB := XBn; have BK := BKn))
   go_ret
   exact ⟨rfl, XB.out⟩
 ·have z0 : (n == 0) = false := by simpa using hz0
  clear hz0
  have HR : Aside0 (chkB 6 a c v t n o = false) := ⟨by simp_all [chkB, wB] <;> (intros; omega)⟩
  rw [HR.out]
  go_enter Try.func20, Try.ntmps20
  go_wp2_with (first | ((with_reducible refine gate_dst (N := 1) rfl ?_); refine bx_ (N := 1) (cs := #[.int .i64 6, .int .i64 a, .int .i64 c, .slice A v.length cc, .int .i64 t, .int .i64 n, .int .i64 o]) (t := 24) ?_; intro g hg w1 hb HB; have XB := Aside0.mk HB; have BK := Aside0.mk hb; obtain ⟨k0, k1, k2, k3, k4, k5, k6⟩ := cells7 hb; clear hg hb HB) | (go_at_call 45; refine (is_c _ _).mono ?_; rintro e w' ⟨rfl, rfl⟩) | (go_at_call 43; refine (refspan_c _ _ _ (by omega) (by omega)).mono ?_; rintro e w' ⟨rfl, rfl⟩) | (go_at_call 44; refine (vals_c 6 a c A cc v t n o _ _ _ (Kd.C_below HV.out XB.out) (m := 65535) (by decide)).mono ?_; rintro e w2 ⟨rfl, HB⟩; have XBn := Aside0.mk (below_step XB.out HB); have BKn := Aside0.mk (blk_below BK.out HB); obtain ⟨k0, k1, k2, k3, k4, k5, k6⟩ := cells7 BKn.out; clear HB XB BK; have XB := XBn; have BK := BKn))
  go_ret
  exact ⟨rfl, XB.out⟩
end Go.Proofs.Ytocicifgglkaeaa.Chk
end

section
namespace Go.Proofs.Ytocicifgglkaeaa.Chk
open Go.RowKit Go.Proofs.YtocicifgglkaeaaW.PrintWords Go.Proofs.YtocicifgglkaeaaW.PrintLast Go.Proofs.YtocicifgglkaeaaW.PrintMore Go.Proofs.Ytocicifgglkaeaa.Core Go.Proofs.Ytocicifgglkaeaa.Wk
set_option linter.unusedVariables false
set_option linter.unusedSimpArgs false
set_option maxHeartbeats 4000000 in
set_option maxRecDepth 100000 in
theorem may_15 (a c : Int) (A : Option Addr) (cc : Nat) (v : List Int) (t n o : Int) (w : World) (hV : Kd.C (Kd.int .i64) w A v.length v) : Calls Try.prog 20 #[.agg #[.int .i64 15, .int .i64 a, .int .i64 c, .slice A v.length cc, .int .i64 t, .int .i64 n, .int .i64 o]] w fun e w' => e = .returned (.bool (chkB 15 a c v t n o)) ∧ Below w.heap.size w w' := by
 have HV := Aside0.mk hV; clear hV
 by_cases hz0 : (n == 0) = true
 ·have z0 : (n == 0) = true := hz0; clear hz0
  by_cases hz1 : (o == 0) = true
  ·have z1 : (o == 0) = true := hz1; clear hz1
   by_cases hz2 : (t == 0) = true
   ·have z2 : (t == 0) = true := hz2; clear hz2
    by_cases hz3 : (c == (v.length : Int)) = true
    ·have z3 : (c == (v.length : Int)) = true := hz3; clear hz3
     by_cases hz4 : smB 1 1968 1 v = true
     ·have z4 : smB 1 1968 1 v = true := hz4; clear hz4; have pz4 := smB_len z4
      by_cases hz5 : spB a v.length = true
      ·have z5 : spB a v.length = true := hz5; clear hz5
       have HR : Aside0 (chkB 15 a c v t n o = true) := ⟨by simp_all [chkB, wB] <;> (intros; omega)⟩
       rw [HR.out]
       go_enter Try.func20, Try.ntmps20
       go_wp2_with (first | ((with_reducible refine gate_dst (N := 1) rfl ?_); refine bx_ (N := 1) (cs := #[.int .i64 15, .int .i64 a, .int .i64 c, .slice A v.length cc, .int .i64 t, .int .i64 n, .int .i64 o]) (t := 24) ?_; intro g hg w1 hb HB; have XB := Aside0.mk HB; have BK := Aside0.mk hb; obtain ⟨k0, k1, k2, k3, k4, k5, k6⟩ := cells7 hb; clear hg hb HB) | (go_at_call 45; refine (is_c _ _).mono ?_; rintro e w' ⟨rfl, rfl⟩) | (go_at_call 43; refine (refspan_c _ _ _ (by omega) (by omega)).mono ?_; rintro e w' ⟨rfl, rfl⟩) | (go_at_call 44; refine (vals_c 15 a c A cc v t n o _ _ _ (Kd.C_below HV.out XB.out) (m := 1) (by decide)).mono ?_; rintro e w2 ⟨rfl, HB⟩; have XBn := Aside0.mk (below_step XB.out HB); have BKn := Aside0.mk (blk_below BK.out HB); obtain ⟨k0, k1, k2, k3, k4, k5, k6⟩ := cells7 BKn.out; clear HB XB BK; have XB := XBn; have BK := BKn))
       go_ret
       exact ⟨rfl, XB.out⟩
      ·have z5 : spB a v.length = false := by simpa using hz5
       clear hz5
       have HR : Aside0 (chkB 15 a c v t n o = false) := ⟨by simp_all [chkB, wB] <;> (intros; omega)⟩
       rw [HR.out]
       go_enter Try.func20, Try.ntmps20
       go_wp2_with (first | ((with_reducible refine gate_dst (N := 1) rfl ?_); refine bx_ (N := 1) (cs := #[.int .i64 15, .int .i64 a, .int .i64 c, .slice A v.length cc, .int .i64 t, .int .i64 n, .int .i64 o]) (t := 24) ?_; intro g hg w1 hb HB; have XB := Aside0.mk HB; have BK := Aside0.mk hb; obtain ⟨k0, k1, k2, k3, k4, k5, k6⟩ := cells7 hb; clear hg hb HB) | (go_at_call 45; refine (is_c _ _).mono ?_; rintro e w' ⟨rfl, rfl⟩) | (go_at_call 43; refine (refspan_c _ _ _ (by omega) (by omega)).mono ?_; rintro e w' ⟨rfl, rfl⟩) | (go_at_call 44; refine (vals_c 15 a c A cc v t n o _ _ _ (Kd.C_below HV.out XB.out) (m := 1) (by decide)).mono ?_; rintro e w2 ⟨rfl, HB⟩; have XBn := Aside0.mk (below_step XB.out HB); have BKn := Aside0.mk (blk_below BK.out HB); obtain ⟨k0, k1, k2, k3, k4, k5, k6⟩ := cells7 BKn.out; clear HB XB BK; have XB := XBn; have BK := BKn))
       go_ret
       exact ⟨rfl, XB.out⟩
     ·have z4 : smB 1 1968 1 v = false := by simpa using hz4
      clear hz4
      have HR : Aside0 (chkB 15 a c v t n o = false) := ⟨by simp_all [chkB, wB] <;> (intros; omega)⟩
      rw [HR.out]
      go_enter Try.func20, Try.ntmps20
      go_wp2_with (first | ((with_reducible refine gate_dst (N := 1) rfl ?_); refine bx_ (N := 1) (cs := #[.int .i64 15, .int .i64 a, .int .i64 c, .slice A v.length cc, .int .i64 t, .int .i64 n, .int .i64 o]) (t := 24) ?_; intro g hg w1 hb HB; have XB := Aside0.mk HB; have BK := Aside0.mk hb; obtain ⟨k0, k1, k2, k3, k4, k5, k6⟩ := cells7 hb; clear hg hb HB) | (go_at_call 45; refine (is_c _ _).mono ?_; rintro e w' ⟨rfl, rfl⟩) | (go_at_call 43; refine (refspan_c _ _ _ (by omega) (by omega)).mono ?_; rintro e w' ⟨rfl, rfl⟩) | (go_at_call 44; refine (vals_c 15 a c A cc v t n o _ _ _ (Kd.C_below HV.out XB.out) (m := 1) (by decide)).mono ?_; rintro e w2 ⟨rfl, HB⟩; have XBn := Aside0.mk (below_step XB.out HB); have BKn := Aside0.mk (blk_below BK.out HB); obtain ⟨k0, k1, k2, k3, k4, k5, k6⟩ := cells7 BKn.out; clear HB XB BK; have XB := XBn; have BK := BKn))
      go_ret
      exact ⟨rfl, XB.out⟩
    ·have z3 : (c == (v.length : Int)) = false := by simpa using hz3
     clear hz3
     have HR : Aside0 (chkB 15 a c v t n o = false) := ⟨by simp_all [chkB, wB] <;> (intros; omega)⟩
     rw [HR.out]
     go_enter Try.func20, Try.ntmps20
     go_wp2_with (first | ((with_reducible refine gate_dst (N := 1) rfl ?_); refine bx_ (N := 1) (cs := #[.int .i64 15, .int .i64 a, .int .i64 c, .slice A v.length cc, .int .i64 t, .int .i64 n, .int .i64 o]) (t := 24) ?_; intro g hg w1 hb HB; have XB := Aside0.mk HB; have BK := Aside0.mk hb; obtain ⟨k0, k1, k2, k3, k4, k5, k6⟩ := cells7 hb; clear hg hb HB) | (go_at_call 45; refine (is_c _ _).mono ?_; rintro e w' ⟨rfl, rfl⟩) | (go_at_call 43; refine (refspan_c _ _ _ (by omega) (by omega)).mono ?_; rintro e w' ⟨rfl, rfl⟩) | (go_at_call 44; refine (vals_c 15 a c A cc v t n o _ _ _ (Kd.C_below HV.out XB.out) (m := 1) (by decide)).mono ?_; rintro e w2 ⟨rfl, HB⟩; have XBn := Aside0.mk (below_step XB.out HB); have BKn := Aside0.mk (blk_below BK.out HB); obtain ⟨k0, k1, k2, k3, k4, k5, k6⟩ := cells7 BKn.out; clear HB XB BK; have XB := XBn; have BK := BKn))
     go_ret
     exact ⟨rfl, XB.out⟩
   ·have z2 : (t == 0) = false := by simpa using hz2
    clear hz2
    have HR : Aside0 (chkB 15 a c v t n o = false) := ⟨by simp_all [chkB, wB] <;> (intros; omega)⟩
    rw [HR.out]
    go_enter Try.func20, Try.ntmps20
    go_wp2_with (first | ((with_reducible refine gate_dst (N := 1) rfl ?_); refine bx_ (N := 1) (cs := #[.int .i64 15, .int .i64 a, .int .i64 c, .slice A v.length cc, .int .i64 t, .int .i64 n, .int .i64 o]) (t := 24) ?_; intro g hg w1 hb HB; have XB := Aside0.mk HB; have BK := Aside0.mk hb; obtain ⟨k0, k1, k2, k3, k4, k5, k6⟩ := cells7 hb; clear hg hb HB) | (go_at_call 45; refine (is_c _ _).mono ?_; rintro e w' ⟨rfl, rfl⟩) | (go_at_call 43; refine (refspan_c _ _ _ (by omega) (by omega)).mono ?_; rintro e w' ⟨rfl, rfl⟩) | (go_at_call 44; refine (vals_c 15 a c A cc v t n o _ _ _ (Kd.C_below HV.out XB.out) (m := 1) (by decide)).mono ?_; rintro e w2 ⟨rfl, HB⟩; have XBn := Aside0.mk (below_step XB.out HB); have BKn := Aside0.mk (blk_below BK.out HB); obtain ⟨k0, k1, k2, k3, k4, k5, k6⟩ := cells7 BKn.out; clear HB XB BK; have XB := XBn; have BK := BKn))
    go_ret
    exact ⟨rfl, XB.out⟩
  ·have z1 : (o == 0) = false := by simpa using hz1
   clear hz1
   have HR : Aside0 (chkB 15 a c v t n o = false) := ⟨by simp_all [chkB, wB] <;> (intros; omega)⟩
   rw [HR.out]
   go_enter Try.func20, Try.ntmps20
   go_wp2_with (first | ((with_reducible refine gate_dst (N := 1) rfl ?_); refine bx_ (N := 1) (cs := #[.int .i64 15, .int .i64 a, .int .i64 c, .slice A v.length cc, .int .i64 t, .int .i64 n, .int .i64 o]) (t := 24) ?_; intro g hg w1 hb HB; have XB := Aside0.mk HB; have BK := Aside0.mk hb; obtain ⟨k0, k1, k2, k3, k4, k5, k6⟩ := cells7 hb; clear hg hb HB) | (go_at_call 45; refine (is_c _ _).mono ?_; rintro e w' ⟨rfl, rfl⟩) | (go_at_call 43; refine (refspan_c _ _ _ (by omega) (by omega)).mono ?_; rintro e w' ⟨rfl, rfl⟩) | (go_at_call 44; refine (vals_c 15 a c A cc v t n o _ _ _ (Kd.C_below HV.out XB.out) (m := 1) (by decide)).mono ?_; rintro e w2 ⟨rfl, HB⟩; have XBn := Aside0.mk (below_step XB.out HB); have BKn := Aside0.mk (blk_below BK.out HB); obtain ⟨k0, k1, k2, k3, k4, k5, k6⟩ := cells7 BKn.out; clear HB XB BK; have XB := XBn; have BK := BKn))
   go_ret
   exact ⟨rfl, XB.out⟩
 ·have z0 : (n == 0) = false := by simpa using hz0
  clear hz0
  have HR : Aside0 (chkB 15 a c v t n o = false) := ⟨by simp_all [chkB, wB] <;> (intros; omega)⟩
  rw [HR.out]
  go_enter Try.func20, Try.ntmps20
  go_wp2_with (first | ((with_reducible refine gate_dst (N := 1) rfl ?_); refine bx_ (N := 1) (cs := #[.int .i64 15, .int .i64 a, .int .i64 c, .slice A v.length cc, .int .i64 t, .int .i64 n, .int .i64 o]) (t := 24) ?_; intro g hg w1 hb HB; have XB := Aside0.mk HB; have BK := Aside0.mk hb; obtain ⟨k0, k1, k2, k3, k4, k5, k6⟩ := cells7 hb; clear hg hb HB) | (go_at_call 45; refine (is_c _ _).mono ?_; rintro e w' ⟨rfl, rfl⟩) | (go_at_call 43; refine (refspan_c _ _ _ (by omega) (by omega)).mono ?_; rintro e w' ⟨rfl, rfl⟩) | (go_at_call 44; refine (vals_c 15 a c A cc v t n o _ _ _ (Kd.C_below HV.out XB.out) (m := 1) (by decide)).mono ?_; rintro e w2 ⟨rfl, HB⟩; have XBn := Aside0.mk (below_step XB.out HB); have BKn := Aside0.mk (blk_below BK.out HB); obtain ⟨k0, k1, k2, k3, k4, k5, k6⟩ := cells7 BKn.out; clear HB XB BK; have XB := XBn; have BK := BKn))
  go_ret
  exact ⟨rfl, XB.out⟩
set_option maxHeartbeats 4000000 in
set_option maxRecDepth 100000 in
theorem may_16 (a c : Int) (A : Option Addr) (cc : Nat) (v : List Int) (t n o : Int) (w : World) (hV : Kd.C (Kd.int .i64) w A v.length v) : Calls Try.prog 20 #[.agg #[.int .i64 16, .int .i64 a, .int .i64 c, .slice A v.length cc, .int .i64 t, .int .i64 n, .int .i64 o]] w fun e w' => e = .returned (.bool (chkB 16 a c v t n o)) ∧ Below w.heap.size w w' := by
 have HV := Aside0.mk hV; clear hV
 by_cases hz0 : (n == 0) = true
 ·have z0 : (n == 0) = true := hz0; clear hz0
  by_cases hz1 : (o == 0) = true
  ·have z1 : (o == 0) = true := hz1; clear hz1
   by_cases hz2 : (t == 0) = true
   ·have z2 : (t == 0) = true := hz2; clear hz2
    by_cases hz3 : (c == (v.length : Int)) = true
    ·have z3 : (c == (v.length : Int)) = true := hz3; clear hz3
     by_cases hz4 : smB 1 123 65535 v = true
     ·have z4 : smB 1 123 65535 v = true := hz4; clear hz4; have pz4 := smB_len z4
      by_cases hz5 : spB a v.length = true
      ·have z5 : spB a v.length = true := hz5; clear hz5
       have HR : Aside0 (chkB 16 a c v t n o = true) := ⟨by simp_all [chkB, wB] <;> (intros; omega)⟩
       rw [HR.out]
       go_enter Try.func20, Try.ntmps20
       go_wp2_with (first | ((with_reducible refine gate_dst (N := 1) rfl ?_); refine bx_ (N := 1) (cs := #[.int .i64 16, .int .i64 a, .int .i64 c, .slice A v.length cc, .int .i64 t, .int .i64 n, .int .i64 o]) (t := 24) ?_; intro g hg w1 hb HB; have XB := Aside0.mk HB; have BK := Aside0.mk hb; obtain ⟨k0, k1, k2, k3, k4, k5, k6⟩ := cells7 hb; clear hg hb HB) | (go_at_call 45; refine (is_c _ _).mono ?_; rintro e w' ⟨rfl, rfl⟩) | (go_at_call 43; refine (refspan_c _ _ _ (by omega) (by omega)).mono ?_; rintro e w' ⟨rfl, rfl⟩) | (go_at_call 44; refine (vals_c 16 a c A cc v t n o _ _ _ (Kd.C_below HV.out XB.out) (m := 65535) (by decide)).mono ?_; rintro e w2 ⟨rfl, HB⟩; have XBn := Aside0.mk (below_step XB.out HB); have BKn := Aside0.mk (blk_below BK.out HB); obtain ⟨k0, k1, k2, k3, k4, k5, k6⟩ := cells7 BKn.out; clear HB XB BK; have XB := XBn; have BK := BKn))
       go_ret
       exact ⟨rfl, XB.out⟩
      ·have z5 : spB a v.length = false := by simpa using hz5
       clear hz5
       have HR : Aside0 (chkB 16 a c v t n o = false) := ⟨by simp_all [chkB, wB] <;> (intros; omega)⟩
       rw [HR.out]
       go_enter Try.func20, Try.ntmps20
       go_wp2_with (first | ((with_reducible refine gate_dst (N := 1) rfl ?_); refine bx_ (N := 1) (cs := #[.int .i64 16, .int .i64 a, .int .i64 c, .slice A v.length cc, .int .i64 t, .int .i64 n, .int .i64 o]) (t := 24) ?_; intro g hg w1 hb HB; have XB := Aside0.mk HB; have BK := Aside0.mk hb; obtain ⟨k0, k1, k2, k3, k4, k5, k6⟩ := cells7 hb; clear hg hb HB) | (go_at_call 45; refine (is_c _ _).mono ?_; rintro e w' ⟨rfl, rfl⟩) | (go_at_call 43; refine (refspan_c _ _ _ (by omega) (by omega)).mono ?_; rintro e w' ⟨rfl, rfl⟩) | (go_at_call 44; refine (vals_c 16 a c A cc v t n o _ _ _ (Kd.C_below HV.out XB.out) (m := 65535) (by decide)).mono ?_; rintro e w2 ⟨rfl, HB⟩; have XBn := Aside0.mk (below_step XB.out HB); have BKn := Aside0.mk (blk_below BK.out HB); obtain ⟨k0, k1, k2, k3, k4, k5, k6⟩ := cells7 BKn.out; clear HB XB BK; have XB := XBn; have BK := BKn))
       go_ret
       exact ⟨rfl, XB.out⟩
     ·have z4 : smB 1 123 65535 v = false := by simpa using hz4
      clear hz4
      have HR : Aside0 (chkB 16 a c v t n o = false) := ⟨by simp_all [chkB, wB] <;> (intros; omega)⟩
      rw [HR.out]
      go_enter Try.func20, Try.ntmps20
      go_wp2_with (first | ((with_reducible refine gate_dst (N := 1) rfl ?_); refine bx_ (N := 1) (cs := #[.int .i64 16, .int .i64 a, .int .i64 c, .slice A v.length cc, .int .i64 t, .int .i64 n, .int .i64 o]) (t := 24) ?_; intro g hg w1 hb HB; have XB := Aside0.mk HB; have BK := Aside0.mk hb; obtain ⟨k0, k1, k2, k3, k4, k5, k6⟩ := cells7 hb; clear hg hb HB) | (go_at_call 45; refine (is_c _ _).mono ?_; rintro e w' ⟨rfl, rfl⟩) | (go_at_call 43; refine (refspan_c _ _ _ (by omega) (by omega)).mono ?_; rintro e w' ⟨rfl, rfl⟩) | (go_at_call 44; refine (vals_c 16 a c A cc v t n o _ _ _ (Kd.C_below HV.out XB.out) (m := 65535) (by decide)).mono ?_; rintro e w2 ⟨rfl, HB⟩; have XBn := Aside0.mk (below_step XB.out HB); have BKn := Aside0.mk (blk_below BK.out HB); obtain ⟨k0, k1, k2, k3, k4, k5, k6⟩ := cells7 BKn.out; clear HB XB BK; have XB := XBn; have BK := BKn))
      go_ret
      exact ⟨rfl, XB.out⟩
    ·have z3 : (c == (v.length : Int)) = false := by simpa using hz3
     clear hz3
     have HR : Aside0 (chkB 16 a c v t n o = false) := ⟨by simp_all [chkB, wB] <;> (intros; omega)⟩
     rw [HR.out]
     go_enter Try.func20, Try.ntmps20
     go_wp2_with (first | ((with_reducible refine gate_dst (N := 1) rfl ?_); refine bx_ (N := 1) (cs := #[.int .i64 16, .int .i64 a, .int .i64 c, .slice A v.length cc, .int .i64 t, .int .i64 n, .int .i64 o]) (t := 24) ?_; intro g hg w1 hb HB; have XB := Aside0.mk HB; have BK := Aside0.mk hb; obtain ⟨k0, k1, k2, k3, k4, k5, k6⟩ := cells7 hb; clear hg hb HB) | (go_at_call 45; refine (is_c _ _).mono ?_; rintro e w' ⟨rfl, rfl⟩) | (go_at_call 43; refine (refspan_c _ _ _ (by omega) (by omega)).mono ?_; rintro e w' ⟨rfl, rfl⟩) | (go_at_call 44; refine (vals_c 16 a c A cc v t n o _ _ _ (Kd.C_below HV.out XB.out) (m := 65535) (by decide)).mono ?_; rintro e w2 ⟨rfl, HB⟩; have XBn := Aside0.mk (below_step XB.out HB); have BKn := Aside0.mk (blk_below BK.out HB); obtain ⟨k0, k1, k2, k3, k4, k5, k6⟩ := cells7 BKn.out; clear HB XB BK; have XB := XBn; have BK := BKn))
     go_ret
     exact ⟨rfl, XB.out⟩
   ·have z2 : (t == 0) = false := by simpa using hz2
    clear hz2
    have HR : Aside0 (chkB 16 a c v t n o = false) := ⟨by simp_all [chkB, wB] <;> (intros; omega)⟩
    rw [HR.out]
    go_enter Try.func20, Try.ntmps20
    go_wp2_with (first | ((with_reducible refine gate_dst (N := 1) rfl ?_); refine bx_ (N := 1) (cs := #[.int .i64 16, .int .i64 a, .int .i64 c, .slice A v.length cc, .int .i64 t, .int .i64 n, .int .i64 o]) (t := 24) ?_; intro g hg w1 hb HB; have XB := Aside0.mk HB; have BK := Aside0.mk hb; obtain ⟨k0, k1, k2, k3, k4, k5, k6⟩ := cells7 hb; clear hg hb HB) | (go_at_call 45; refine (is_c _ _).mono ?_; rintro e w' ⟨rfl, rfl⟩) | (go_at_call 43; refine (refspan_c _ _ _ (by omega) (by omega)).mono ?_; rintro e w' ⟨rfl, rfl⟩) | (go_at_call 44; refine (vals_c 16 a c A cc v t n o _ _ _ (Kd.C_below HV.out XB.out) (m := 65535) (by decide)).mono ?_; rintro e w2 ⟨rfl, HB⟩; have XBn := Aside0.mk (below_step XB.out HB); have BKn := Aside0.mk (blk_below BK.out HB); obtain ⟨k0, k1, k2, k3, k4, k5, k6⟩ := cells7 BKn.out; clear HB XB BK; have XB := XBn; have BK := BKn))
    go_ret
    exact ⟨rfl, XB.out⟩
  ·have z1 : (o == 0) = false := by simpa using hz1
   clear hz1
   have HR : Aside0 (chkB 16 a c v t n o = false) := ⟨by simp_all [chkB, wB] <;> (intros; omega)⟩
   rw [HR.out]
   go_enter Try.func20, Try.ntmps20
   go_wp2_with (first | ((with_reducible refine gate_dst (N := 1) rfl ?_); refine bx_ (N := 1) (cs := #[.int .i64 16, .int .i64 a, .int .i64 c, .slice A v.length cc, .int .i64 t, .int .i64 n, .int .i64 o]) (t := 24) ?_; intro g hg w1 hb HB; have XB := Aside0.mk HB; have BK := Aside0.mk hb; obtain ⟨k0, k1, k2, k3, k4, k5, k6⟩ := cells7 hb; clear hg hb HB) | (go_at_call 45; refine (is_c _ _).mono ?_; rintro e w' ⟨rfl, rfl⟩) | (go_at_call 43; refine (refspan_c _ _ _ (by omega) (by omega)).mono ?_; rintro e w' ⟨rfl, rfl⟩) | (go_at_call 44; refine (vals_c 16 a c A cc v t n o _ _ _ (Kd.C_below HV.out XB.out) (m := 65535) (by decide)).mono ?_; rintro e w2 ⟨rfl, HB⟩; have XBn := Aside0.mk (below_step XB.out HB); have BKn := Aside0.mk (blk_below BK.out HB); obtain ⟨k0, k1, k2, k3, k4, k5, k6⟩ := cells7 BKn.out; clear HB XB BK; have XB := XBn; have BK := BKn))
   go_ret
   exact ⟨rfl, XB.out⟩
 ·have z0 : (n == 0) = false := by simpa using hz0
  clear hz0
  have HR : Aside0 (chkB 16 a c v t n o = false) := ⟨by simp_all [chkB, wB] <;> (intros; omega)⟩
  rw [HR.out]
  go_enter Try.func20, Try.ntmps20
  go_wp2_with (first | ((with_reducible refine gate_dst (N := 1) rfl ?_); refine bx_ (N := 1) (cs := #[.int .i64 16, .int .i64 a, .int .i64 c, .slice A v.length cc, .int .i64 t, .int .i64 n, .int .i64 o]) (t := 24) ?_; intro g hg w1 hb HB; have XB := Aside0.mk HB; have BK := Aside0.mk hb; obtain ⟨k0, k1, k2, k3, k4, k5, k6⟩ := cells7 hb; clear hg hb HB) | (go_at_call 45; refine (is_c _ _).mono ?_; rintro e w' ⟨rfl, rfl⟩) | (go_at_call 43; refine (refspan_c _ _ _ (by omega) (by omega)).mono ?_; rintro e w' ⟨rfl, rfl⟩) | (go_at_call 44; refine (vals_c 16 a c A cc v t n o _ _ _ (Kd.C_below HV.out XB.out) (m := 65535) (by decide)).mono ?_; rintro e w2 ⟨rfl, HB⟩; have XBn := Aside0.mk (below_step XB.out HB); have BKn := Aside0.mk (blk_below BK.out HB); obtain ⟨k0, k1, k2, k3, k4, k5, k6⟩ := cells7 BKn.out; clear HB XB BK; have XB := XBn; have BK := BKn))
  go_ret
  exact ⟨rfl, XB.out⟩
end Go.Proofs.Ytocicifgglkaeaa.Chk
end

section
namespace Go.Proofs.Ytocicifgglkaeaa.Chk
open Go.RowKit Go.Proofs.YtocicifgglkaeaaW.PrintWords Go.Proofs.YtocicifgglkaeaaW.PrintLast Go.Proofs.YtocicifgglkaeaaW.PrintMore Go.Proofs.Ytocicifgglkaeaa.Core Go.Proofs.Ytocicifgglkaeaa.Wk
set_option linter.unusedVariables false
set_option linter.unusedSimpArgs false
set_option maxHeartbeats 4000000 in
set_option maxRecDepth 100000 in
theorem may_22 (a c : Int) (A : Option Addr) (cc : Nat) (v : List Int) (t n o : Int) (w : World) (hV : Kd.C (Kd.int .i64) w A v.length v) : Calls Try.prog 20 #[.agg #[.int .i64 22, .int .i64 a, .int .i64 c, .slice A v.length cc, .int .i64 t, .int .i64 n, .int .i64 o]] w fun e w' => e = .returned (.bool (chkB 22 a c v t n o)) ∧ Below w.heap.size w w' := by
 have HV := Aside0.mk hV; clear hV
 by_cases hz0 : (n == 0) = true
 ·have z0 : (n == 0) = true := hz0; clear hz0
  by_cases hz1 : (o == 0) = true
  ·have z1 : (o == 0) = true := hz1; clear hz1
   by_cases hz2 : ((v.length : Int) == 0) = true
   ·have z2 : ((v.length : Int) == 0) = true := hz2; clear hz2
    by_cases hz3 : (t == 0) = true
    ·have z3 : (t == 0) = true := hz3; clear hz3
     by_cases hz4 : (c == 0) = true
     ·have z4 : (c == 0) = true := hz4; clear hz4
      by_cases hz5 : spB a 1 = true
      ·have z5 : spB a 1 = true := hz5; clear hz5
       by_cases hz6 : wB 0 65535 n = true
       ·have z6 : wB 0 65535 n = true := hz6; clear hz6
        by_cases hz7 : wB 0 65535 o = true
        ·have z7 : wB 0 65535 o = true := hz7; clear hz7
         have HR : Aside0 (chkB 22 a c v t n o = true) := ⟨by simp_all [chkB]⟩
         rw [HR.out]
         go_enter Try.func20, Try.ntmps20
         go_wp2_with (first | ((with_reducible refine gate_dst (N := 1) rfl ?_); refine bx_ (N := 1) (cs := #[.int .i64 22, .int .i64 a, .int .i64 c, .slice A v.length cc, .int .i64 t, .int .i64 n, .int .i64 o]) (t := 24) ?_; intro g hg w1 hb HB; have XB := Aside0.mk HB; have BK := Aside0.mk hb; obtain ⟨k0, k1, k2, k3, k4, k5, k6⟩ := cells7 hb; clear hg hb HB) | (go_at_call 45; refine (is_c _ _).mono ?_; rintro e w' ⟨rfl, rfl⟩) | (go_at_call 43; refine (refspan_c _ _ _ (by omega) (by omega)).mono ?_; rintro e w' ⟨rfl, rfl⟩))
         go_ret
         exact ⟨rfl, XB.out⟩
        ·have z7 : wB 0 65535 o = false := by simpa using hz7
         clear hz7
         have HR : Aside0 (chkB 22 a c v t n o = false) := ⟨by simp_all [chkB]⟩
         rw [HR.out]
         go_enter Try.func20, Try.ntmps20
         go_wp2_with (first | ((with_reducible refine gate_dst (N := 1) rfl ?_); refine bx_ (N := 1) (cs := #[.int .i64 22, .int .i64 a, .int .i64 c, .slice A v.length cc, .int .i64 t, .int .i64 n, .int .i64 o]) (t := 24) ?_; intro g hg w1 hb HB; have XB := Aside0.mk HB; have BK := Aside0.mk hb; obtain ⟨k0, k1, k2, k3, k4, k5, k6⟩ := cells7 hb; clear hg hb HB) | (go_at_call 45; refine (is_c _ _).mono ?_; rintro e w' ⟨rfl, rfl⟩) | (go_at_call 43; refine (refspan_c _ _ _ (by omega) (by omega)).mono ?_; rintro e w' ⟨rfl, rfl⟩))
         go_ret
         exact ⟨rfl, XB.out⟩
       ·have z6 : wB 0 65535 n = false := by simpa using hz6
        clear hz6
        have HR : Aside0 (chkB 22 a c v t n o = false) := ⟨by simp_all [chkB]⟩
        rw [HR.out]
        go_enter Try.func20, Try.ntmps20
        go_wp2_with (first | ((with_reducible refine gate_dst (N := 1) rfl ?_); refine bx_ (N := 1) (cs := #[.int .i64 22, .int .i64 a, .int .i64 c, .slice A v.length cc, .int .i64 t, .int .i64 n, .int .i64 o]) (t := 24) ?_; intro g hg w1 hb HB; have XB := Aside0.mk HB; have BK := Aside0.mk hb; obtain ⟨k0, k1, k2, k3, k4, k5, k6⟩ := cells7 hb; clear hg hb HB) | (go_at_call 45; refine (is_c _ _).mono ?_; rintro e w' ⟨rfl, rfl⟩) | (go_at_call 43; refine (refspan_c _ _ _ (by omega) (by omega)).mono ?_; rintro e w' ⟨rfl, rfl⟩))
        go_ret
        exact ⟨rfl, XB.out⟩
      ·have z5 : spB a 1 = false := by simpa using hz5
       clear hz5
       have HR : Aside0 (chkB 22 a c v t n o = false) := ⟨by simp_all [chkB]⟩
       rw [HR.out]
       go_enter Try.func20, Try.ntmps20
       go_wp2_with (first | ((with_reducible refine gate_dst (N := 1) rfl ?_); refine bx_ (N := 1) (cs := #[.int .i64 22, .int .i64 a, .int .i64 c, .slice A v.length cc, .int .i64 t, .int .i64 n, .int .i64 o]) (t := 24) ?_; intro g hg w1 hb HB; have XB := Aside0.mk HB; have BK := Aside0.mk hb; obtain ⟨k0, k1, k2, k3, k4, k5, k6⟩ := cells7 hb; clear hg hb HB) | (go_at_call 45; refine (is_c _ _).mono ?_; rintro e w' ⟨rfl, rfl⟩) | (go_at_call 43; refine (refspan_c _ _ _ (by omega) (by omega)).mono ?_; rintro e w' ⟨rfl, rfl⟩))
       go_ret
       exact ⟨rfl, XB.out⟩
     ·have z4 : (c == 0) = false := by simpa using hz4
      clear hz4
      have HR : Aside0 (chkB 22 a c v t n o = false) := ⟨by simp_all [chkB]⟩
      rw [HR.out]
      go_enter Try.func20, Try.ntmps20
      go_wp2_with (first | ((with_reducible refine gate_dst (N := 1) rfl ?_); refine bx_ (N := 1) (cs := #[.int .i64 22, .int .i64 a, .int .i64 c, .slice A v.length cc, .int .i64 t, .int .i64 n, .int .i64 o]) (t := 24) ?_; intro g hg w1 hb HB; have XB := Aside0.mk HB; have BK := Aside0.mk hb; obtain ⟨k0, k1, k2, k3, k4, k5, k6⟩ := cells7 hb; clear hg hb HB) | (go_at_call 45; refine (is_c _ _).mono ?_; rintro e w' ⟨rfl, rfl⟩) | (go_at_call 43; refine (refspan_c _ _ _ (by omega) (by omega)).mono ?_; rintro e w' ⟨rfl, rfl⟩))
      go_ret
      exact ⟨rfl, XB.out⟩
    ·have z3 : (t == 0) = false := by simpa using hz3
     clear hz3
     have HR : Aside0 (chkB 22 a c v t n o = false) := ⟨by simp_all [chkB]⟩
     rw [HR.out]
     go_enter Try.func20, Try.ntmps20
     go_wp2_with (first | ((with_reducible refine gate_dst (N := 1) rfl ?_); refine bx_ (N := 1) (cs := #[.int .i64 22, .int .i64 a, .int .i64 c, .slice A v.length cc, .int .i64 t, .int .i64 n, .int .i64 o]) (t := 24) ?_; intro g hg w1 hb HB; have XB := Aside0.mk HB; have BK := Aside0.mk hb; obtain ⟨k0, k1, k2, k3, k4, k5, k6⟩ := cells7 hb; clear hg hb HB) | (go_at_call 45; refine (is_c _ _).mono ?_; rintro e w' ⟨rfl, rfl⟩) | (go_at_call 43; refine (refspan_c _ _ _ (by omega) (by omega)).mono ?_; rintro e w' ⟨rfl, rfl⟩))
     go_ret
     exact ⟨rfl, XB.out⟩
   ·have z2 : ((v.length : Int) == 0) = false := by simpa using hz2
    clear hz2
    have HR : Aside0 (chkB 22 a c v t n o = false) := ⟨by simp_all [chkB]⟩
    rw [HR.out]
    go_enter Try.func20, Try.ntmps20
    go_wp2_with (first | ((with_reducible refine gate_dst (N := 1) rfl ?_); refine bx_ (N := 1) (cs := #[.int .i64 22, .int .i64 a, .int .i64 c, .slice A v.length cc, .int .i64 t, .int .i64 n, .int .i64 o]) (t := 24) ?_; intro g hg w1 hb HB; have XB := Aside0.mk HB; have BK := Aside0.mk hb; obtain ⟨k0, k1, k2, k3, k4, k5, k6⟩ := cells7 hb; clear hg hb HB) | (go_at_call 45; refine (is_c _ _).mono ?_; rintro e w' ⟨rfl, rfl⟩) | (go_at_call 43; refine (refspan_c _ _ _ (by omega) (by omega)).mono ?_; rintro e w' ⟨rfl, rfl⟩))
    go_ret
    exact ⟨rfl, XB.out⟩
  ·have z1 : (o == 0) = false := by simpa using hz1
   clear hz1
   by_cases hz2 : ((v.length : Int) == 0) = true
   ·have z2 : ((v.length : Int) == 0) = true := hz2; clear hz2
    by_cases hz3 : (t == 0) = true
    ·have z3 : (t == 0) = true := hz3; clear hz3
     by_cases hz4 : (c == 0) = true
     ·have z4 : (c == 0) = true := hz4; clear hz4
      by_cases hz5 : spB a 1 = true
      ·have z5 : spB a 1 = true := hz5; clear hz5
       by_cases hz6 : wB 0 65535 n = true
       ·have z6 : wB 0 65535 n = true := hz6; clear hz6
        by_cases hz7 : wB 0 65535 o = true
        ·have z7 : wB 0 65535 o = true := hz7; clear hz7
         have HR : Aside0 (chkB 22 a c v t n o = true) := ⟨by simp_all [chkB]⟩
         rw [HR.out]
         go_enter Try.func20, Try.ntmps20
         go_wp2_with (first | ((with_reducible refine gate_dst (N := 1) rfl ?_); refine bx_ (N := 1) (cs := #[.int .i64 22, .int .i64 a, .int .i64 c, .slice A v.length cc, .int .i64 t, .int .i64 n, .int .i64 o]) (t := 24) ?_; intro g hg w1 hb HB; have XB := Aside0.mk HB; have BK := Aside0.mk hb; obtain ⟨k0, k1, k2, k3, k4, k5, k6⟩ := cells7 hb; clear hg hb HB) | (go_at_call 45; refine (is_c _ _).mono ?_; rintro e w' ⟨rfl, rfl⟩) | (go_at_call 43; refine (refspan_c _ _ _ (by omega) (by omega)).mono ?_; rintro e w' ⟨rfl, rfl⟩))
         go_ret
         exact ⟨rfl, XB.out⟩
        ·have z7 : wB 0 65535 o = false := by simpa using hz7
         clear hz7
         have HR : Aside0 (chkB 22 a c v t n o = false) := ⟨by simp_all [chkB]⟩
         rw [HR.out]
         go_enter Try.func20, Try.ntmps20
         go_wp2_with (first | ((with_reducible refine gate_dst (N := 1) rfl ?_); refine bx_ (N := 1) (cs := #[.int .i64 22, .int .i64 a, .int .i64 c, .slice A v.length cc, .int .i64 t, .int .i64 n, .int .i64 o]) (t := 24) ?_; intro g hg w1 hb HB; have XB := Aside0.mk HB; have BK := Aside0.mk hb; obtain ⟨k0, k1, k2, k3, k4, k5, k6⟩ := cells7 hb; clear hg hb HB) | (go_at_call 45; refine (is_c _ _).mono ?_; rintro e w' ⟨rfl, rfl⟩) | (go_at_call 43; refine (refspan_c _ _ _ (by omega) (by omega)).mono ?_; rintro e w' ⟨rfl, rfl⟩))
         go_ret
         exact ⟨rfl, XB.out⟩
       ·have z6 : wB 0 65535 n = false := by simpa using hz6
        clear hz6
        have HR : Aside0 (chkB 22 a c v t n o = false) := ⟨by simp_all [chkB]⟩
        rw [HR.out]
        go_enter Try.func20, Try.ntmps20
        go_wp2_with (first | ((with_reducible refine gate_dst (N := 1) rfl ?_); refine bx_ (N := 1) (cs := #[.int .i64 22, .int .i64 a, .int .i64 c, .slice A v.length cc, .int .i64 t, .int .i64 n, .int .i64 o]) (t := 24) ?_; intro g hg w1 hb HB; have XB := Aside0.mk HB; have BK := Aside0.mk hb; obtain ⟨k0, k1, k2, k3, k4, k5, k6⟩ := cells7 hb; clear hg hb HB) | (go_at_call 45; refine (is_c _ _).mono ?_; rintro e w' ⟨rfl, rfl⟩) | (go_at_call 43; refine (refspan_c _ _ _ (by omega) (by omega)).mono ?_; rintro e w' ⟨rfl, rfl⟩))
        go_ret
        exact ⟨rfl, XB.out⟩
      ·have z5 : spB a 1 = false := by simpa using hz5
       clear hz5
       have HR : Aside0 (chkB 22 a c v t n o = false) := ⟨by simp_all [chkB]⟩
       rw [HR.out]
       go_enter Try.func20, Try.ntmps20
       go_wp2_with (first | ((with_reducible refine gate_dst (N := 1) rfl ?_); refine bx_ (N := 1) (cs := #[.int .i64 22, .int .i64 a, .int .i64 c, .slice A v.length cc, .int .i64 t, .int .i64 n, .int .i64 o]) (t := 24) ?_; intro g hg w1 hb HB; have XB := Aside0.mk HB; have BK := Aside0.mk hb; obtain ⟨k0, k1, k2, k3, k4, k5, k6⟩ := cells7 hb; clear hg hb HB) | (go_at_call 45; refine (is_c _ _).mono ?_; rintro e w' ⟨rfl, rfl⟩) | (go_at_call 43; refine (refspan_c _ _ _ (by omega) (by omega)).mono ?_; rintro e w' ⟨rfl, rfl⟩))
       go_ret
       exact ⟨rfl, XB.out⟩
     ·have z4 : (c == 0) = false := by simpa using hz4
      clear hz4
      have HR : Aside0 (chkB 22 a c v t n o = false) := ⟨by simp_all [chkB]⟩
      rw [HR.out]
      go_enter Try.func20, Try.ntmps20
      go_wp2_with (first | ((with_reducible refine gate_dst (N := 1) rfl ?_); refine bx_ (N := 1) (cs := #[.int .i64 22, .int .i64 a, .int .i64 c, .slice A v.length cc, .int .i64 t, .int .i64 n, .int .i64 o]) (t := 24) ?_; intro g hg w1 hb HB; have XB := Aside0.mk HB; have BK := Aside0.mk hb; obtain ⟨k0, k1, k2, k3, k4, k5, k6⟩ := cells7 hb; clear hg hb HB) | (go_at_call 45; refine (is_c _ _).mono ?_; rintro e w' ⟨rfl, rfl⟩) | (go_at_call 43; refine (refspan_c _ _ _ (by omega) (by omega)).mono ?_; rintro e w' ⟨rfl, rfl⟩))
      go_ret
      exact ⟨rfl, XB.out⟩
    ·have z3 : (t == 0) = false := by simpa using hz3
     clear hz3
     have HR : Aside0 (chkB 22 a c v t n o = false) := ⟨by simp_all [chkB]⟩
     rw [HR.out]
     go_enter Try.func20, Try.ntmps20
     go_wp2_with (first | ((with_reducible refine gate_dst (N := 1) rfl ?_); refine bx_ (N := 1) (cs := #[.int .i64 22, .int .i64 a, .int .i64 c, .slice A v.length cc, .int .i64 t, .int .i64 n, .int .i64 o]) (t := 24) ?_; intro g hg w1 hb HB; have XB := Aside0.mk HB; have BK := Aside0.mk hb; obtain ⟨k0, k1, k2, k3, k4, k5, k6⟩ := cells7 hb; clear hg hb HB) | (go_at_call 45; refine (is_c _ _).mono ?_; rintro e w' ⟨rfl, rfl⟩) | (go_at_call 43; refine (refspan_c _ _ _ (by omega) (by omega)).mono ?_; rintro e w' ⟨rfl, rfl⟩))
     go_ret
     exact ⟨rfl, XB.out⟩
   ·have z2 : ((v.length : Int) == 0) = false := by simpa using hz2
    clear hz2
    have HR : Aside0 (chkB 22 a c v t n o = false) := ⟨by simp_all [chkB]⟩
    rw [HR.out]
    go_enter Try.func20, Try.ntmps20
    go_wp2_with (first | ((with_reducible refine gate_dst (N := 1) rfl ?_); refine bx_ (N := 1) (cs := #[.int .i64 22, .int .i64 a, .int .i64 c, .slice A v.length cc, .int .i64 t, .int .i64 n, .int .i64 o]) (t := 24) ?_; intro g hg w1 hb HB; have XB := Aside0.mk HB; have BK := Aside0.mk hb; obtain ⟨k0, k1, k2, k3, k4, k5, k6⟩ := cells7 hb; clear hg hb HB) | (go_at_call 45; refine (is_c _ _).mono ?_; rintro e w' ⟨rfl, rfl⟩) | (go_at_call 43; refine (refspan_c _ _ _ (by omega) (by omega)).mono ?_; rintro e w' ⟨rfl, rfl⟩))
    go_ret
    exact ⟨rfl, XB.out⟩
 ·have z0 : (n == 0) = false := by simpa using hz0
  clear hz0
  by_cases hz1 : ((v.length : Int) == 0) = true
  ·have z1 : ((v.length : Int) == 0) = true := hz1; clear hz1
   by_cases hz2 : (t == 0) = true
   ·have z2 : (t == 0) = true := hz2; clear hz2
    by_cases hz3 : (c == 0) = true
    ·have z3 : (c == 0) = true := hz3; clear hz3
     by_cases hz4 : spB a 1 = true
     ·have z4 : spB a 1 = true := hz4; clear hz4
      by_cases hz5 : wB 0 65535 n = true
      ·have z5 : wB 0 65535 n = true := hz5; clear hz5
       by_cases hz6 : wB 0 65535 o = true
       ·have z6 : wB 0 65535 o = true := hz6; clear hz6
        have HR : Aside0 (chkB 22 a c v t n o = true) := ⟨by simp_all [chkB]⟩
        rw [HR.out]
        go_enter Try.func20, Try.ntmps20
        go_wp2_with (first | ((with_reducible refine gate_dst (N := 1) rfl ?_); refine bx_ (N := 1) (cs := #[.int .i64 22, .int .i64 a, .int .i64 c, .slice A v.length cc, .int .i64 t, .int .i64 n, .int .i64 o]) (t := 24) ?_; intro g hg w1 hb HB; have XB := Aside0.mk HB; have BK := Aside0.mk hb; obtain ⟨k0, k1, k2, k3, k4, k5, k6⟩ := cells7 hb; clear hg hb HB) | (go_at_call 45; refine (is_c _ _).mono ?_; rintro e w' ⟨rfl, rfl⟩) | (go_at_call 43; refine (refspan_c _ _ _ (by omega) (by omega)).mono ?_; rintro e w' ⟨rfl, rfl⟩))
        go_ret
        exact ⟨rfl, XB.out⟩
       ·have z6 : wB 0 65535 o = false := by simpa using hz6
        clear hz6
        have HR : Aside0 (chkB 22 a c v t n o = false) := ⟨by simp_all [chkB]⟩
        rw [HR.out]
        go_enter Try.func20, Try.ntmps20
        go_wp2_with (first | ((with_reducible refine gate_dst (N := 1) rfl ?_); refine bx_ (N := 1) (cs := #[.int .i64 22, .int .i64 a, .int .i64 c, .slice A v.length cc, .int .i64 t, .int .i64 n, .int .i64 o]) (t := 24) ?_; intro g hg w1 hb HB; have XB := Aside0.mk HB; have BK := Aside0.mk hb; obtain ⟨k0, k1, k2, k3, k4, k5, k6⟩ := cells7 hb; clear hg hb HB) | (go_at_call 45; refine (is_c _ _).mono ?_; rintro e w' ⟨rfl, rfl⟩) | (go_at_call 43; refine (refspan_c _ _ _ (by omega) (by omega)).mono ?_; rintro e w' ⟨rfl, rfl⟩))
        go_ret
        exact ⟨rfl, XB.out⟩
      ·have z5 : wB 0 65535 n = false := by simpa using hz5
       clear hz5
       have HR : Aside0 (chkB 22 a c v t n o = false) := ⟨by simp_all [chkB]⟩
       rw [HR.out]
       go_enter Try.func20, Try.ntmps20
       go_wp2_with (first | ((with_reducible refine gate_dst (N := 1) rfl ?_); refine bx_ (N := 1) (cs := #[.int .i64 22, .int .i64 a, .int .i64 c, .slice A v.length cc, .int .i64 t, .int .i64 n, .int .i64 o]) (t := 24) ?_; intro g hg w1 hb HB; have XB := Aside0.mk HB; have BK := Aside0.mk hb; obtain ⟨k0, k1, k2, k3, k4, k5, k6⟩ := cells7 hb; clear hg hb HB) | (go_at_call 45; refine (is_c _ _).mono ?_; rintro e w' ⟨rfl, rfl⟩) | (go_at_call 43; refine (refspan_c _ _ _ (by omega) (by omega)).mono ?_; rintro e w' ⟨rfl, rfl⟩))
       go_ret
       exact ⟨rfl, XB.out⟩
     ·have z4 : spB a 1 = false := by simpa using hz4
      clear hz4
      have HR : Aside0 (chkB 22 a c v t n o = false) := ⟨by simp_all [chkB]⟩
      rw [HR.out]
      go_enter Try.func20, Try.ntmps20
      go_wp2_with (first | ((with_reducible refine gate_dst (N := 1) rfl ?_); refine bx_ (N := 1) (cs := #[.int .i64 22, .int .i64 a, .int .i64 c, .slice A v.length cc, .int .i64 t, .int .i64 n, .int .i64 o]) (t := 24) ?_; intro g hg w1 hb HB; have XB := Aside0.mk HB; have BK := Aside0.mk hb; obtain ⟨k0, k1, k2, k3, k4, k5, k6⟩ := cells7 hb; clear hg hb HB) | (go_at_call 45; refine (is_c _ _).mono ?_; rintro e w' ⟨rfl, rfl⟩) | (go_at_call 43; refine (refspan_c _ _ _ (by omega) (by omega)).mono ?_; rintro e w' ⟨rfl, rfl⟩))
      go_ret
      exact ⟨rfl, XB.out⟩
    ·have z3 : (c == 0) = false := by simpa using hz3
     clear hz3
     have HR : Aside0 (chkB 22 a c v t n o = false) := ⟨by simp_all [chkB]⟩
     rw [HR.out]
     go_enter Try.func20, Try.ntmps20
     go_wp2_with (first | ((with_reducible refine gate_dst (N := 1) rfl ?_); refine bx_ (N := 1) (cs := #[.int .i64 22, .int .i64 a, .int .i64 c, .slice A v.length cc, .int .i64 t, .int .i64 n, .int .i64 o]) (t := 24) ?_; intro g hg w1 hb HB; have XB := Aside0.mk HB; have BK := Aside0.mk hb; obtain ⟨k0, k1, k2, k3, k4, k5, k6⟩ := cells7 hb; clear hg hb HB) | (go_at_call 45; refine (is_c _ _).mono ?_; rintro e w' ⟨rfl, rfl⟩) | (go_at_call 43; refine (refspan_c _ _ _ (by omega) (by omega)).mono ?_; rintro e w' ⟨rfl, rfl⟩))
     go_ret
     exact ⟨rfl, XB.out⟩
   ·have z2 : (t == 0) = false := by simpa using hz2
    clear hz2
    have HR : Aside0 (chkB 22 a c v t n o = false) := ⟨by simp_all [chkB]⟩
    rw [HR.out]
    go_enter Try.func20, Try.ntmps20
    go_wp2_with (first | ((with_reducible refine gate_dst (N := 1) rfl ?_); refine bx_ (N := 1) (cs := #[.int .i64 22, .int .i64 a, .int .i64 c, .slice A v.length cc, .int .i64 t, .int .i64 n, .int .i64 o]) (t := 24) ?_; intro g hg w1 hb HB; have XB := Aside0.mk HB; have BK := Aside0.mk hb; obtain ⟨k0, k1, k2, k3, k4, k5, k6⟩ := cells7 hb; clear hg hb HB) | (go_at_call 45; refine (is_c _ _).mono ?_; rintro e w' ⟨rfl, rfl⟩) | (go_at_call 43; refine (refspan_c _ _ _ (by omega) (by omega)).mono ?_; rintro e w' ⟨rfl, rfl⟩))
    go_ret
    exact ⟨rfl, XB.out⟩
  ·have z1 : ((v.length : Int) == 0) = false := by simpa using hz1
   clear hz1
   have HR : Aside0 (chkB 22 a c v t n o = false) := ⟨by simp_all [chkB]⟩
   rw [HR.out]
   go_enter Try.func20, Try.ntmps20
   go_wp2_with (first | ((with_reducible refine gate_dst (N := 1) rfl ?_); refine bx_ (N := 1) (cs := #[.int .i64 22, .int .i64 a, .int .i64 c, .slice A v.length cc, .int .i64 t, .int .i64 n, .int .i64 o]) (t := 24) ?_; intro g hg w1 hb HB; have XB := Aside0.mk HB; have BK := Aside0.mk hb; obtain ⟨k0, k1, k2, k3, k4, k5, k6⟩ := cells7 hb; clear hg hb HB) | (go_at_call 45; refine (is_c _ _).mono ?_; rintro e w' ⟨rfl, rfl⟩) | (go_at_call 43; refine (refspan_c _ _ _ (by omega) (by omega)).mono ?_; rintro e w' ⟨rfl, rfl⟩))
   go_ret
   exact ⟨rfl, XB.out⟩
set_option maxHeartbeats 4000000 in
set_option maxRecDepth 100000 in
theorem may_f (f a c : Int) (A : Option Addr) (cc : Nat) (v : List Int) (t n o : Int) (w : World) (hV : Kd.C (Kd.int .i64) w A v.length v) (hf : f ≠ 1 ∧ f ≠ 2 ∧ f ≠ 3 ∧ f ≠ 4 ∧ f ≠ 5 ∧ f ≠ 6 ∧ f ≠ 15 ∧ f ≠ 16 ∧ f ≠ 22 ∧ f ≠ 23) : Calls Try.prog 20 #[.agg #[.int .i64 f, .int .i64 a, .int .i64 c, .slice A v.length cc, .int .i64 t, .int .i64 n, .int .i64 o]] w fun e w' => e = .returned (.bool (chkB f a c v t n o)) ∧ Below w.heap.size w w' := by
 have HV := Aside0.mk hV; clear hV
 obtain ⟨g1, g2, g3, g4, g5, g6, g7, g8, g9, g10⟩ := hf
 have HR : Aside0 (chkB f a c v t n o = false) := ⟨by unfold chkB; rw [if_neg (by omega), if_neg (by omega), if_neg g5, if_neg g6, if_neg g7, if_neg g8, if_neg g9, if_neg g10]⟩
 have y0 : (f == 1) = false := beq_eq_false_iff_ne.2 g1
 have y1 : (f == 2) = false := beq_eq_false_iff_ne.2 g2
 have y2 : (f == 3) = false := beq_eq_false_iff_ne.2 g3
 have y3 : (f == 4) = false := beq_eq_false_iff_ne.2 g4
 have y4 : (f == 5) = false := beq_eq_false_iff_ne.2 g5
 have y5 : (f == 6) = false := beq_eq_false_iff_ne.2 g6
 have y6 : (f == 15) = false := beq_eq_false_iff_ne.2 g7
 have y7 : (f == 16) = false := beq_eq_false_iff_ne.2 g8
 have y8 : (f == 22) = false := beq_eq_false_iff_ne.2 g9
 have y9 : (f == 23) = false := beq_eq_false_iff_ne.2 g10
 clear g1 g2 g3 g4 g5 g6 g7 g8 g9 g10
 rw [HR.out]
 by_cases hz0 : (n == 0) = true
 ·have z0 : (n == 0) = true := hz0; clear hz0
  by_cases hz1 : (o == 0) = true
  ·have z1 : (o == 0) = true := hz1; clear hz1
   go_enter Try.func20, Try.ntmps20
   go_wp2_with (first | ((with_reducible refine gate_dst (N := 1) rfl ?_); refine bx_ (N := 1) (cs := #[.int .i64 f, .int .i64 a, .int .i64 c, .slice A v.length cc, .int .i64 t, .int .i64 n, .int .i64 o]) (t := 24) ?_; intro g hg w1 hb HB; have XB := Aside0.mk HB; have BK := Aside0.mk hb; obtain ⟨k0, k1, k2, k3, k4, k5, k6⟩ := cells7 hb; clear hg hb HB) | (go_at_call 45; refine (is_c _ _).mono ?_; rintro e w' ⟨rfl, rfl⟩) | (go_at_call 43; refine (refspan_c _ _ _ (by omega) (by omega)).mono ?_; rintro e w' ⟨rfl, rfl⟩))
   go_ret
   exact ⟨rfl, XB.out⟩
  ·have z1 : (o == 0) = false := by simpa using hz1
   clear hz1
   go_enter Try.func20, Try.ntmps20
   go_wp2_with (first | ((with_reducible refine gate_dst (N := 1) rfl ?_); refine bx_ (N := 1) (cs := #[.int .i64 f, .int .i64 a, .int .i64 c, .slice A v.length cc, .int .i64 t, .int .i64 n, .int .i64 o]) (t := 24) ?_; intro g hg w1 hb HB; have XB := Aside0.mk HB; have BK := Aside0.mk hb; obtain ⟨k0, k1, k2, k3, k4, k5, k6⟩ := cells7 hb; clear hg hb HB) | (go_at_call 45; refine (is_c _ _).mono ?_; rintro e w' ⟨rfl, rfl⟩) | (go_at_call 43; refine (refspan_c _ _ _ (by omega) (by omega)).mono ?_; rintro e w' ⟨rfl, rfl⟩))
   go_ret
   exact ⟨rfl, XB.out⟩
 ·have z0 : (n == 0) = false := by simpa using hz0
  clear hz0
  go_enter Try.func20, Try.ntmps20
  go_wp2_with (first | ((with_reducible refine gate_dst (N := 1) rfl ?_); refine bx_ (N := 1) (cs := #[.int .i64 f, .int .i64 a, .int .i64 c, .slice A v.length cc, .int .i64 t, .int .i64 n, .int .i64 o]) (t := 24) ?_; intro g hg w1 hb HB; have XB := Aside0.mk HB; have BK := Aside0.mk hb; obtain ⟨k0, k1, k2, k3, k4, k5, k6⟩ := cells7 hb; clear hg hb HB) | (go_at_call 45; refine (is_c _ _).mono ?_; rintro e w' ⟨rfl, rfl⟩) | (go_at_call 43; refine (refspan_c _ _ _ (by omega) (by omega)).mono ?_; rintro e w' ⟨rfl, rfl⟩))
  go_ret
  exact ⟨rfl, XB.out⟩
end Go.Proofs.Ytocicifgglkaeaa.Chk
end

section
namespace Go.Proofs.Ytocicifgglkaeaa.Chk
open Go.RowKit Go.Proofs.YtocicifgglkaeaaW.PrintWords Go.Proofs.YtocicifgglkaeaaW.PrintLast Go.Proofs.YtocicifgglkaeaaW.PrintMore Go.Proofs.Ytocicifgglkaeaa.Core Go.Proofs.Ytocicifgglkaeaa.Wk
set_option linter.unusedVariables false
set_option linter.unusedSimpArgs false
set_option maxHeartbeats 4000000 in
set_option maxRecDepth 100000 in
theorem may_23 (a c : Int) (A : Option Addr) (cc : Nat) (v : List Int) (t n o : Int) (w : World) (hV : Kd.C (Kd.int .i64) w A v.length v) : Calls Try.prog 20 #[.agg #[.int .i64 23, .int .i64 a, .int .i64 c, .slice A v.length cc, .int .i64 t, .int .i64 n, .int .i64 o]] w fun e w' => e = .returned (.bool (chkB 23 a c v t n o)) ∧ Below w.heap.size w w' := by
 have HV := Aside0.mk hV; clear hV
 by_cases hz0 : (n == 0) = true
 ·have z0 : (n == 0) = true := hz0; clear hz0
  by_cases hz1 : (o == 0) = true
  ·have z1 : (o == 0) = true := hz1; clear hz1
   by_cases hz2 : decide (1 ≤ c) = true
   ·have z2 : decide (1 ≤ c) = true := hz2; clear hz2; have pz2 := of_decide_eq_true z2
    by_cases hz3 : decide (c ≤ 125) = true
    ·have z3 : decide (c ≤ 125) = true := hz3; clear hz3; have pz3 := of_decide_eq_true z3
     by_cases hz4 : spB a c = true
     ·have z4 : spB a c = true := hz4; clear hz4
      by_cases hz5 : smB 1 121 65535 v = true
      ·have z5 : smB 1 121 65535 v = true := hz5; clear hz5; have pz5 := smB_len z5
       by_cases hz6 : spB t v.length = true
       ·have z6 : spB t v.length = true := hz6; clear hz6
        have HR : Aside0 (chkB 23 a c v t n o = true) := ⟨by simp_all [chkB, wB] <;> (intros; omega)⟩
        rw [HR.out]
        go_enter Try.func20, Try.ntmps20
        go_wp2_with (first | ((with_reducible refine gate_dst (N := 1) rfl ?_); refine bx_ (N := 1) (cs := #[.int .i64 23, .int .i64 a, .int .i64 c, .slice A v.length cc, .int .i64 t, .int .i64 n, .int .i64 o]) (t := 24) ?_; intro g hg w1 hb HB; have XB := Aside0.mk HB; have BK := Aside0.mk hb; obtain ⟨k0, k1, k2, k3, k4, k5, k6⟩ := cells7 hb; clear hg hb HB) | (go_at_call 45; refine (is_c _ _).mono ?_; rintro e w' ⟨rfl, rfl⟩) | (go_at_call 43; refine (refspan_c _ _ _ (by omega) (by omega)).mono ?_; rintro e w' ⟨rfl, rfl⟩) | (go_at_call 44; refine (vals_c 23 a c A cc v t n o _ _ _ (Kd.C_below HV.out XB.out) (m := 65535) (by decide)).mono ?_; rintro e w2 ⟨rfl, HB⟩; have XBn := Aside0.mk (below_step XB.out HB); have BKn := Aside0.mk (blk_below BK.out HB); obtain ⟨k0, k1, k2, k3, k4, k5, k6⟩ := cells7 BKn.out; clear HB XB BK; have XB := XBn; have BK := BKn))
        go_ret
        exact ⟨rfl, XB.out⟩
       ·have z6 : spB t v.length = false := by simpa using hz6
        clear hz6
        have HR : Aside0 (chkB 23 a c v t n o = false) := ⟨by simp_all [chkB, wB] <;> (intros; omega)⟩
        rw [HR.out]
        go_enter Try.func20, Try.ntmps20
        go_wp2_with (first | ((with_reducible refine gate_dst (N := 1) rfl ?_); refine bx_ (N := 1) (cs := #[.int .i64 23, .int .i64 a, .int .i64 c, .slice A v.length cc, .int .i64 t, .int .i64 n, .int .i64 o]) (t := 24) ?_; intro g hg w1 hb HB; have XB := Aside0.mk HB; have BK := Aside0.mk hb; obtain ⟨k0, k1, k2, k3, k4, k5, k6⟩ := cells7 hb; clear hg hb HB) | (go_at_call 45; refine (is_c _ _).mono ?_; rintro e w' ⟨rfl, rfl⟩) | (go_at_call 43; refine (refspan_c _ _ _ (by omega) (by omega)).mono ?_; rintro e w' ⟨rfl, rfl⟩) | (go_at_call 44; refine (vals_c 23 a c A cc v t n o _ _ _ (Kd.C_below HV.out XB.out) (m := 65535) (by decide)).mono ?_; rintro e w2 ⟨rfl, HB⟩; have XBn := Aside0.mk (below_step XB.out HB); have BKn := Aside0.mk (blk_below BK.out HB); obtain ⟨k0, k1, k2, k3, k4, k5, k6⟩ := cells7 BKn.out; clear HB XB BK; have XB := XBn; have BK := BKn))
        go_ret
        exact ⟨rfl, XB.out⟩
      ·have z5 : smB 1 121 65535 v = false := by simpa using hz5
       clear hz5
       have HR : Aside0 (chkB 23 a c v t n o = false) := ⟨by simp_all [chkB, wB] <;> (intros; omega)⟩
       rw [HR.out]
       go_enter Try.func20, Try.ntmps20
       go_wp2_with (first | ((with_reducible refine gate_dst (N := 1) rfl ?_); refine bx_ (N := 1) (cs := #[.int .i64 23, .int .i64 a, .int .i64 c, .slice A v.length cc, .int .i64 t, .int .i64 n, .int .i64 o]) (t := 24) ?_; intro g hg w1 hb HB; have XB := Aside0.mk HB; have BK := Aside0.mk hb; obtain ⟨k0, k1, k2, k3, k4, k5, k6⟩ := cells7 hb; clear hg hb HB) | (go_at_call 45; refine (is_c _ _).mono ?_; rintro e w' ⟨rfl, rfl⟩) | (go_at_call 43; refine (refspan_c _ _ _ (by omega) (by omega)).mono ?_; rintro e w' ⟨rfl, rfl⟩) | (go_at_call 44; refine (vals_c 23 a c A cc v t n o _ _ _ (Kd.C_below HV.out XB.out) (m := 65535) (by decide)).mono ?_; rintro e w2 ⟨rfl, HB⟩; have XBn := Aside0.mk (below_step XB.out HB); have BKn := Aside0.mk (blk_below BK.out HB); obtain ⟨k0, k1, k2, k3, k4, k5, k6⟩ := cells7 BKn.out; clear HB XB BK; have XB := XBn; have BK := BKn))
       go_ret
       exact ⟨rfl, XB.out⟩
     ·have z4 : spB a c = false := by simpa using hz4
      clear hz4
      have HR : Aside0 (chkB 23 a c v t n o = false) := ⟨by simp_all [chkB, wB] <;> (intros; omega)⟩
      rw [HR.out]
      go_enter Try.func20, Try.ntmps20
      go_wp2_with (first | ((with_reducible refine gate_dst (N := 1) rfl ?_); refine bx_ (N := 1) (cs := #[.int .i64 23, .int .i64 a, .int .i64 c, .slice A v.length cc, .int .i64 t, .int .i64 n, .int .i64 o]) (t := 24) ?_; intro g hg w1 hb HB; have XB := Aside0.mk HB; have BK := Aside0.mk hb; obtain ⟨k0, k1, k2, k3, k4, k5, k6⟩ := cells7 hb; clear hg hb HB) | (go_at_call 45; refine (is_c _ _).mono ?_; rintro e w' ⟨rfl, rfl⟩) | (go_at_call 43; refine (refspan_c _ _ _ (by omega) (by omega)).mono ?_; rintro e w' ⟨rfl, rfl⟩) | (go_at_call 44; refine (vals_c 23 a c A cc v t n o _ _ _ (Kd.C_below HV.out XB.out) (m := 65535) (by decide)).mono ?_; rintro e w2 ⟨rfl, HB⟩; have XBn := Aside0.mk (below_step XB.out HB); have BKn := Aside0.mk (blk_below BK.out HB); obtain ⟨k0, k1, k2, k3, k4, k5, k6⟩ := cells7 BKn.out; clear HB XB BK; have XB := XBn; have BK := BKn))
      go_ret
      exact ⟨rfl, XB.out⟩
    ·have z3 : decide (c ≤ 125) = false := by simpa using hz3
     clear hz3
     have HR : Aside0 (chkB 23 a c v t n o = false) := ⟨by simp_all [chkB, wB] <;> (intros; omega)⟩
     rw [HR.out]
     go_enter Try.func20, Try.ntmps20
     go_wp2_with (first | ((with_reducible refine gate_dst (N := 1) rfl ?_); refine bx_ (N := 1) (cs := #[.int .i64 23, .int .i64 a, .int .i64 c, .slice A v.length cc, .int .i64 t, .int .i64 n, .int .i64 o]) (t := 24) ?_; intro g hg w1 hb HB; have XB := Aside0.mk HB; have BK := Aside0.mk hb; obtain ⟨k0, k1, k2, k3, k4, k5, k6⟩ := cells7 hb; clear hg hb HB) | (go_at_call 45; refine (is_c _ _).mono ?_; rintro e w' ⟨rfl, rfl⟩) | (go_at_call 43; refine (refspan_c _ _ _ (by omega) (by omega)).mono ?_; rintro e w' ⟨rfl, rfl⟩) | (go_at_call 44; refine (vals_c 23 a c A cc v t n o _ _ _ (Kd.C_below HV.out XB.out) (m := 65535) (by decide)).mono ?_; rintro e w2 ⟨rfl, HB⟩; have XBn := Aside0.mk (below_step XB.out HB); have BKn := Aside0.mk (blk_below BK.out HB); obtain ⟨k0, k1, k2, k3, k4, k5, k6⟩ := cells7 BKn.out; clear HB XB BK; have XB := XBn; have BK := BKn))
     go_ret
     exact ⟨rfl, XB.out⟩
   ·have z2 : decide (1 ≤ c) = false := by simpa using hz2
    clear hz2
    have HR : Aside0 (chkB 23 a c v t n o = false) := ⟨by simp_all [chkB, wB] <;> (intros; omega)⟩
    rw [HR.out]
    go_enter Try.func20, Try.ntmps20
    go_wp2_with (first | ((with_reducible refine gate_dst (N := 1) rfl ?_); refine bx_ (N := 1) (cs := #[.int .i64 23, .int .i64 a, .int .i64 c, .slice A v.length cc, .int .i64 t, .int .i64 n, .int .i64 o]) (t := 24) ?_; intro g hg w1 hb HB; have XB := Aside0.mk HB; have BK := Aside0.mk hb; obtain ⟨k0, k1, k2, k3, k4, k5, k6⟩ := cells7 hb; clear hg hb HB) | (go_at_call 45; refine (is_c _ _).mono ?_; rintro e w' ⟨rfl, rfl⟩) | (go_at_call 43; refine (refspan_c _ _ _ (by omega) (by omega)).mono ?_; rintro e w' ⟨rfl, rfl⟩) | (go_at_call 44; refine (vals_c 23 a c A cc v t n o _ _ _ (Kd.C_below HV.out XB.out) (m := 65535) (by decide)).mono ?_; rintro e w2 ⟨rfl, HB⟩; have XBn := Aside0.mk (below_step XB.out HB); have BKn := Aside0.mk (blk_below BK.out HB); obtain ⟨k0, k1, k2, k3, k4, k5, k6⟩ := cells7 BKn.out; clear HB XB BK; have XB := XBn; have BK := BKn))
    go_ret
    exact ⟨rfl, XB.out⟩
  ·have z1 : (o == 0) = false := by simpa using hz1
   clear hz1
   have HR : Aside0 (chkB 23 a c v t n o = false) := ⟨by simp_all [chkB, wB] <;> (intros; omega)⟩
   rw [HR.out]
   go_enter Try.func20, Try.ntmps20
   go_wp2_with (first | ((with_reducible refine gate_dst (N := 1) rfl ?_); refine bx_ (N := 1) (cs := #[.int .i64 23, .int .i64 a, .int .i64 c, .slice A v.length cc, .int .i64 t, .int .i64 n, .int .i64 o]) (t := 24) ?_; intro g hg w1 hb HB; have XB := Aside0.mk HB; have BK := Aside0.mk hb; obtain ⟨k0, k1, k2, k3, k4, k5, k6⟩ := cells7 hb; clear hg hb HB) | (go_at_call 45; refine (is_c _ _).mono ?_; rintro e w' ⟨rfl, rfl⟩) | (go_at_call 43; refine (refspan_c _ _ _ (by omega) (by omega)).mono ?_; rintro e w' ⟨rfl, rfl⟩) | (go_at_call 44; refine (vals_c 23 a c A cc v t n o _ _ _ (Kd.C_below HV.out XB.out) (m := 65535) (by decide)).mono ?_; rintro e w2 ⟨rfl, HB⟩; have XBn := Aside0.mk (below_step XB.out HB); have BKn := Aside0.mk (blk_below BK.out HB); obtain ⟨k0, k1, k2, k3, k4, k5, k6⟩ := cells7 BKn.out; clear HB XB BK; have XB := XBn; have BK := BKn))
   go_ret
   exact ⟨rfl, XB.out⟩
 ·have z0 : (n == 0) = false := by simpa using hz0
  clear hz0
  have HR : Aside0 (chkB 23 a c v t n o = false) := ⟨by simp_all [chkB, wB] <;> (intros; omega)⟩
  rw [HR.out]
  go_enter Try.func20, Try.ntmps20
  go_wp2_with (first | ((with_reducible refine gate_dst (N := 1) rfl ?_); refine bx_ (N := 1) (cs := #[.int .i64 23, .int .i64 a, .int .i64 c, .slice A v.length cc, .int .i64 t, .int .i64 n, .int .i64 o]) (t := 24) ?_; intro g hg w1 hb HB; have XB := Aside0.mk HB; have BK := Aside0.mk hb; obtain ⟨k0, k1, k2, k3, k4, k5, k6⟩ := cells7 hb; clear hg hb HB) | (go_at_call 45; refine (is_c _ _).mono ?_; rintro e w' ⟨rfl, rfl⟩) | (go_at_call 43; refine (refspan_c _ _ _ (by omega) (by omega)).mono ?_; rintro e w' ⟨rfl, rfl⟩) | (go_at_call 44; refine (vals_c 23 a c A cc v t n o _ _ _ (Kd.C_below HV.out XB.out) (m := 65535) (by decide)).mono ?_; rintro e w2 ⟨rfl, HB⟩; have XBn := Aside0.mk (below_step XB.out HB); have BKn := Aside0.mk (blk_below BK.out HB); obtain ⟨k0, k1, k2, k3, k4, k5, k6⟩ := cells7 BKn.out; clear HB XB BK; have XB := XBn; have BK := BKn))
  go_ret
  exact ⟨rfl, XB.out⟩
end Go.Proofs.Ytocicifgglkaeaa.Chk
end

section
namespace Go.Proofs.Ytocicifgglkaeaa.Chk
open Go.RowKit Go.Proofs.YtocicifgglkaeaaW.PrintWords Go.Proofs.YtocicifgglkaeaaW.PrintLast Go.Proofs.YtocicifgglkaeaaW.PrintMore Go.Proofs.Ytocicifgglkaeaa.Core Go.Proofs.Ytocicifgglkaeaa.Wk
set_option linter.unusedVariables false
set_option linter.unusedSimpArgs false
theorem may_c (f a c : Int) (A : Option Addr) (cc : Nat) (v : List Int) (t n o : Int) (w : World) (hV : Kd.C (Kd.int .i64) w A v.length v) : Calls Try.prog 20 #[.agg #[.int .i64 f, .int .i64 a, .int .i64 c, .slice A v.length cc, .int .i64 t, .int .i64 n, .int .i64 o]] w fun e w' => e = .returned (.bool (chkB f a c v t n o)) ∧ Below w.heap.size w w' := by
 by_cases h0 : f = 1
 ·subst h0; exact may_1 a c A cc v t n o w hV
 by_cases h1 : f = 2
 ·subst h1; exact may_2 a c A cc v t n o w hV
 by_cases h2 : f = 3
 ·subst h2; exact may_3 a c A cc v t n o w hV
 by_cases h3 : f = 4
 ·subst h3; exact may_4 a c A cc v t n o w hV
 by_cases h4 : f = 5
 ·subst h4; exact may_5 a c A cc v t n o w hV
 by_cases h5 : f = 6
 ·subst h5; exact may_6 a c A cc v t n o w hV
 by_cases h6 : f = 15
 ·subst h6; exact may_15 a c A cc v t n o w hV
 by_cases h7 : f = 16
 ·subst h7; exact may_16 a c A cc v t n o w hV
 by_cases h8 : f = 22
 ·subst h8; exact may_22 a c A cc v t n o w hV
 by_cases h9 : f = 23
 ·subst h9; exact may_23 a c A cc v t n o w hV
 exact may_f f a c A cc v t n o w hV ⟨h0, h1, h2, h3, h4, h5, h6, h7, h8, h9⟩
end Go.Proofs.Ytocicifgglkaeaa.Chk
end

section
namespace Go.Proofs.Ytocicifgglkaeaa.ExtV
open Go.RowKit Go.Proofs.Ytocicifgglkaeaa.Chk Go.Proofs.Ytocicifgglkaeaa.ExtF Go.Proofs.Ytocicifgglkaeaa.ExtM Go.Proofs.YtocicifgglkaeaaW.PrintWords Go.Proofs.YtocicifgglkaeaaW.PrintLast Go.Proofs.YtocicifgglkaeaaW.PrintMore
set_option linter.unusedVariables false
set_option linter.unusedSimpArgs false
theorem and_eq {a b c d : Bool} (h : a = c) (k : b = d) : (a && b) = (c && d) := by rw [h, k]
theorem sm_bit (l : List Int) (lo hi : Nat) : smB lo hi 1 l = valB true l lo hi :=
 and_eq (decide_eq_decide.2 (by omega)) (by
  rw [if_pos rfl]
  exact decide_eq_decide.2 ⟨fun k x hx => by have := k x hx; omega, fun k x hx => by have := k x hx; omega⟩)
theorem sm_word (l : List Int) (lo hi : Nat) : smB lo hi 65535 l = valB false l lo hi :=
 and_eq (decide_eq_decide.2 (by omega)) (by
  rw [if_neg (by decide)]
  exact decide_eq_decide.2 ⟨fun k x hx => by have := k x hx; omega, fun k x hx => by have := k x hx; omega⟩)
theorem sp_eq (a n : Int) : spB a n = spanB a n := rfl
theorem w_eq (lo hi n : Int) : wB lo hi n = (decide (lo ≤ n) && decide (n ≤ hi)) := by
 unfold wB
 rw [Bool.eq_iff_iff, Bool.and_eq_true, decide_eq_true_eq, decide_eq_true_eq, decide_eq_true_eq]
theorem w_is (n : Int) : wB 0 65535 n = isB n := rfl
theorem chk_may (f a c : Int) (v : List Int) (t n o : Int) : chkB f a c v t n o = mayB f a c v t n o := by
 unfold chkB mayB
 have b1 := sm_bit v 1 1; have b2 := sm_word v 1 1; have b3 := sm_bit v 1 1968; have b4 := sm_word v 1 123; have b5 := sm_word v 1 121
 have c1 : smB 1 1 1 v = valB true v 1 1 := b1
 have c2 : smB 1 1 65535 v = valB false v 1 1 := b2
 have c3 : smB 1 1968 1 v = valB true v 1 1968 := b3
 have c4 : smB 1 123 65535 v = valB false v 1 123 := b4
 have c5 : smB 1 121 65535 v = valB false v 1 121 := b5
 rw [c1, c2, c3, c4, c5, w_is n, w_is o, w_eq 1 2000 c, w_eq 1 125 c]
 simp only [sp_eq, Bool.and_assoc, Bool.and_comm, Bool.and_left_comm]
theorem may_v (f a c : Int) (A : Option Addr) (cc : Nat) (v : List Int) (t n o : Int) (r : Bool) (w : World) (hV : Kd.C (Kd.int .i64) w A v.length v) (h : mayB f a c v t n o = r) : Calls Try.prog 20 #[.agg #[.int .i64 f, .int .i64 a, .int .i64 c, .slice A v.length cc, .int .i64 t, .int .i64 n, .int .i64 o]] w fun e w' => e = .returned (.bool r) ∧ Below w.heap.size w w' := by
 rw [← h, ← chk_may]
 exact Go.Proofs.Ytocicifgglkaeaa.Chk.may_c f a c A cc v t n o w hV
end Go.Proofs.Ytocicifgglkaeaa.ExtV
end

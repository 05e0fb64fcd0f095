/- The words, contracts and walks that this claim leans on, put together by a program of this session (part 4). -/
import Derived.Test.YtocicifgglkaeaaZA3
import Derived.ChangeAlike
import Derived.MapKept
section
namespace Go.Proofs.Ytocicifgglkaeaa.PR
open Go.RowKit Go.Proofs.YtocicifgglkaeaaW.PrintWords Go.Proofs.YtocicifgglkaeaaW.PrintLast Go.Proofs.YtocicifgglkaeaaW.PrintMore
attribute [local go_sem] max2_int min2_int max_two min_two max_three min_three max_four min_four   
set_option linter.unusedVariables false
set_option linter.unusedSimpArgs false
open Go.Proofs.Ytocicifgglkaeaa.Ext Go.Proofs.Ytocicifgglkaeaa.PP Go.Proofs.Ytocicifgglkaeaa.ExtF Go.Proofs.Ytocicifgglkaeaa.PQ Go.Proofs.Ytocicifgglkaeaa.ExtM
mutual
def pdu_AnswerParse.j1 : Nat → List Int → Int → Int → Int → List Int → Int → Int → Int → List Int → Int → Option (List Int × Int × Int)
 | 0, _, _, _, _, _, _, _, _, _, _ => none
 | k + 1, x1, x358000, x358001, x358002, x358003, x358004, x358005, x358006, x361000, x361001 => (pdu_AnswerBytes.f k x358000 x358001 x358002 x358003 x358004 x358005 x358006 x361000 x361001).bind fun bt380 => (if bt380.2 = 0 then ((bytes_Equal.f bt380.1 x1).bind fun t384 => (if t384 = true then (some (x361000, x361001, 0)) else (some (([] : List Int), 0, 4)))) else (some (([] : List Int), 0, 4)))
def pdu_AnswerParse.j0 : Nat → List Int → Bool → Int → Int → Int → List Int → Int → Int → Int → Int → Option (List Int × Int × Int)
 | 0, _, _, _, _, _, _, _, _, _, _ => none
 | k + 1, x1, x39, x358000, x358001, x358002, x358003, x358004, x358005, x358006, x361001 => if x39 = true then (if 2 ≤ (x1.length : Int) then ((wire_Unpack.f k (x1.drop 2) x358002).bind fun bt364 => (pdu_AnswerParse.j1 k x1 x358000 x358001 x358002 x358003 x358004 x358005 x358006 bt364.1 x361001)) else (none)) else (if x358000 = 3 then (if 2 ≤ (x1.length : Int) then ((pdu_words.f k (x1.drop 2)).bind fun t369 => (pdu_AnswerParse.j1 k x1 x358000 x358001 x358002 x358003 x358004 x358005 x358006 t369 x361001)) else (none)) else (if x358000 = 4 then (if 2 ≤ (x1.length : Int) then ((pdu_words.f k (x1.drop 2)).bind fun t373 => (pdu_AnswerParse.j1 k x1 x358000 x358001 x358002 x358003 x358004 x358005 x358006 t373 x361001)) else (none)) else (if x358000 = 23 then (if 2 ≤ (x1.length : Int) then ((pdu_words.f k (x1.drop 2)).bind fun t377 => (pdu_AnswerParse.j1 k x1 x358000 x358001 x358002 x358003 x358004 x358005 x358006 t377 x361001)) else (none)) else (pdu_AnswerParse.j1 k x1 x358000 x358001 x358002 x358003 x358004 x358005 x358006 ([] : List Int) x361001))))
end
def pdu_AnswerParse.f (k : Nat) (a0_0 : Int) (a0_1 : Int) (a0_2 : Int) (l0_3 : List Int) (a0_4 : Int) (a0_5 : Int) (a0_6 : Int) (l1 : List Int) : Option (List Int × Int × Int) := (pdu_Check.f k a0_0 a0_1 a0_2 l0_3 a0_4 a0_5 a0_6).bind fun t359 => (if t359 = 0 then (if (l1.length : Int) < 2 then (some (([] : List Int), 0, 4)) else (if 0 < (l1.length : Int) then (if (wrap64 (rd l1 0)) = (Go.bits .or .i64 a0_0 128) then (if 1 < (l1.length : Int) then (if (wrap64 (rd l1 1)) = 0 then (some (([] : List Int), wrap64 (rd l1 1), 4)) else (pdu_AnswerParse.j1 k l1 a0_0 a0_1 a0_2 l0_3 a0_4 a0_5 a0_6 ([] : List Int) (wrap64 (rd l1 1)))) else (none)) else (if a0_0 = 1 then (pdu_AnswerParse.j0 k l1 true a0_0 a0_1 a0_2 l0_3 a0_4 a0_5 a0_6 0) else (pdu_AnswerParse.j0 k l1 (a0_0 == 2) a0_0 a0_1 a0_2 l0_3 a0_4 a0_5 a0_6 0))) else (none))) else (some (([] : List Int), 0, t359)))
theorem pdu_AnswerParse.mono_l : ∀ k, (∀ y0 y1 y2 y3 y4 y5 y6 y7 y8 y9, LeO (pdu_AnswerParse.j1 k y0 y1 y2 y3 y4 y5 y6 y7 y8 y9) (pdu_AnswerParse.j1 (k + 1) y0 y1 y2 y3 y4 y5 y6 y7 y8 y9)) ∧ (∀ y0 y1 y2 y3 y4 y5 y6 y7 y8 y9, LeO (pdu_AnswerParse.j0 k y0 y1 y2 y3 y4 y5 y6 y7 y8 y9) (pdu_AnswerParse.j0 (k + 1) y0 y1 y2 y3 y4 y5 y6 y7 y8 y9))
 | 0 => ⟨fun _ _ _ _ _ _ _ _ _ _ r h => by simp [pdu_AnswerParse.j1] at h, fun _ _ _ _ _ _ _ _ _ _ r h => by simp [pdu_AnswerParse.j0] at h⟩
 | k + 1 => by
  obtain ⟨ih0, ih1⟩ := pdu_AnswerParse.mono_l k
  refine ⟨?_, ?_⟩
  ·intro y0 y1 y2 y3 y4 y5 y6 y7 y8 y9
   unfold pdu_AnswerParse.j1
   repeat' first
   | (with_reducible exact ih0 _ _ _ _ _ _ _ _ _ _)
   | (with_reducible exact ih1 _ _ _ _ _ _ _ _ _ _)
   | (with_reducible exact pdu_AnswerBytes.mono _ _ _ _ _ _ _ _ _ _)
   | (with_reducible exact pdu_Check.mono _ _ _ _ _ _ _ _)
   | (with_reducible exact pdu_words.mono _ _)
   | (with_reducible exact wire_Unpack.mono _ _ _)
   | (with_reducible exact LeO.refl _)
   | (with_reducible exact LeO.none _)
   | (with_reducible refine LeO.ite ?_ ?_)
   | (with_reducible refine LeO.bind ?_ (fun _ => ?_))
   | exact ih0 _ _ _ _ _ _ _ _ _ _
   | exact ih1 _ _ _ _ _ _ _ _ _ _
   | exact pdu_AnswerBytes.mono _ _ _ _ _ _ _ _ _ _
   | exact pdu_Check.mono _ _ _ _ _ _ _ _
   | exact pdu_words.mono _ _
   | exact wire_Unpack.mono _ _ _
   | exact LeO.none _
   | refine LeO.ite ?_ ?_
   | refine LeO.bind ?_ (fun _ => ?_)
  ·intro y0 y1 y2 y3 y4 y5 y6 y7 y8 y9
   unfold pdu_AnswerParse.j0
   repeat' first
   | (with_reducible exact ih0 _ _ _ _ _ _ _ _ _ _)
   | (with_reducible exact ih1 _ _ _ _ _ _ _ _ _ _)
   | (with_reducible exact pdu_AnswerBytes.mono _ _ _ _ _ _ _ _ _ _)
   | (with_reducible exact pdu_Check.mono _ _ _ _ _ _ _ _)
   | (with_reducible exact pdu_words.mono _ _)
   | (with_reducible exact wire_Unpack.mono _ _ _)
   | (with_reducible exact LeO.refl _)
   | (with_reducible exact LeO.none _)
   | (with_reducible refine LeO.ite ?_ ?_)
   | (with_reducible refine LeO.bind ?_ (fun _ => ?_))
   | exact ih0 _ _ _ _ _ _ _ _ _ _
   | exact ih1 _ _ _ _ _ _ _ _ _ _
   | exact pdu_AnswerBytes.mono _ _ _ _ _ _ _ _ _ _
   | exact pdu_Check.mono _ _ _ _ _ _ _ _
   | exact pdu_words.mono _ _
   | exact wire_Unpack.mono _ _ _
   | exact LeO.none _
   | refine LeO.ite ?_ ?_
   | refine LeO.bind ?_ (fun _ => ?_)
theorem pdu_AnswerParse.mono : ∀ a0 a1 a2 a3 a4 a5 a6 a7 k, LeO (pdu_AnswerParse.f k a0 a1 a2 a3 a4 a5 a6 a7) (pdu_AnswerParse.f (k + 1) a0 a1 a2 a3 a4 a5 a6 a7) := by
 intro a0 a1 a2 a3 a4 a5 a6 a7 k
 obtain ⟨ih0, ih1⟩ := pdu_AnswerParse.mono_l k
 unfold pdu_AnswerParse.f
 repeat' first
  | (with_reducible exact ih0 _ _ _ _ _ _ _ _ _ _)
  | (with_reducible exact ih1 _ _ _ _ _ _ _ _ _ _)
  | (with_reducible exact pdu_AnswerBytes.mono _ _ _ _ _ _ _ _ _ _)
  | (with_reducible exact pdu_Check.mono _ _ _ _ _ _ _ _)
  | (with_reducible exact pdu_words.mono _ _)
  | (with_reducible exact wire_Unpack.mono _ _ _)
  | (with_reducible exact LeO.refl _)
  | (with_reducible exact LeO.none _)
  | (with_reducible refine LeO.ite ?_ ?_)
  | (with_reducible refine LeO.bind ?_ (fun _ => ?_))
  | exact ih0 _ _ _ _ _ _ _ _ _ _
  | exact ih1 _ _ _ _ _ _ _ _ _ _
  | exact pdu_AnswerBytes.mono _ _ _ _ _ _ _ _ _ _
  | exact pdu_Check.mono _ _ _ _ _ _ _ _
  | exact pdu_words.mono _ _
  | exact wire_Unpack.mono _ _ _
  | exact LeO.none _
  | refine LeO.ite ?_ ?_
  | refine LeO.bind ?_ (fun _ => ?_)
def pdu_AnswerParse.T7 : Bool × List (List Nat × List Nat) := (true, [([], []), ([0], [0]), ([1], [1]), ([2], [2]), ([], []), ([4], [4]), ([5], [5]), ([3, 6], [3, 6]), ([7], [7])])
def pdu_AnswerParse.B7 : List Nat := [0, 1, 3, 7, 0, 16, 48, 127, 255]
theorem pdu_AnswerParse.tab7 : rtab .any (opsOf Try.f39 7) = pdu_AnswerParse.T7 := by kernel_rfl
theorem pdu_AnswerParse.bits7 : waitsOk pdu_AnswerParse.T7.2 pdu_AnswerParse.B7 = true := by kernel_rfl
def pdu_AnswerParse.T12 : Bool × List (List Nat × List Nat) := (true, [([], []), ([0], [0]), ([], []), ([2], [2]), ([1, 3], [1, 3]), ([4], [4]), ([5], [5]), ([5], [5]), ([0, 1, 2, 3, 4, 5, 6], []), ([8, 6, 4, 0, 1, 2, 3, 4, 5, 6], [6, 8])])
def pdu_AnswerParse.B12 : List Nat := [0, 1, 0, 4, 15, 31, 63, 63, 127, 383]
theorem pdu_AnswerParse.tab12 : rtab .any (opsOf Try.f39 12) = pdu_AnswerParse.T12 := by kernel_rfl
theorem pdu_AnswerParse.bits12 : waitsOk pdu_AnswerParse.T12.2 pdu_AnswerParse.B12 = true := by kernel_rfl
set_option maxHeartbeats 8000000 in
set_option maxRecDepth 100000 in
theorem pdu_AnswerParse.calls (k : Nat) (a0_0 : Int) (a0_1 : Int) (a0_2 : Int) (A0_3 : Option Addr) (c0_3 : Nat) (l0_3 : List Int) (a0_4 : Int) (a0_5 : Int) (a0_6 : Int) (A1 : Option Addr) (c1 : Nat) (l1 : List Int) (r1 : List Int) (r2 : Int) (r3 : Int) (w : World) (hr0_3 : Kd.C (Kd.int .i64) w A0_3 l0_3.length l0_3) (hc0_3 : l0_3.length ≤ c0_3) (hr1 : Kd.C (Kd.int .u8) w A1 l1.length l1) (hc1 : l1.length ≤ c1) (h : pdu_AnswerParse.f k a0_0 a0_1 a0_2 l0_3 a0_4 a0_5 a0_6 l1 = some (r1, r2, r3)) :
 Calls Try.prog 39 #[.agg #[.int .i64 a0_0, .int .i64 a0_1, .int .i64 a0_2, .slice A0_3 l0_3.length c0_3, .int .i64 a0_4, .int .i64 a0_5, .int .i64 a0_6], .slice A1 l1.length c1] w fun e w' => ∃ v0_ : Value, e = .returned (.tuple #[.agg #[v0_, .int .i64 r2], .int .i64 r3]) ∧ Kd.R (Kd.int .i64) 3 w' w.heap.size (fun _ => True) v0_ r1 ∧ Below w.heap.size w w' := by
 have hu24 := Try.underlying24
 have hu30 := Try.underlying30
 have HR0_3 := Aside0.mk hr0_3
 have HC0_3 := Aside0.mk hc0_3
 clear hr0_3 hc0_3
 have HR1 := Aside0.mk hr1
 have HC1 := Aside0.mk hc1
 clear hr1 hc1
 have HB := Aside0.mk (Below.refl w.heap.size w)
 have H : ((pdu_Check.f k a0_0 a0_1 a0_2 l0_3 a0_4 a0_5 a0_6).bind fun t359 => (if t359 = 0 then (if (l1.length : Int) < 2 then (some (([] : List Int), 0, 4)) else (if 0 < (l1.length : Int) then (if (wrap64 (rd l1 0)) = (Go.bits .or .i64 a0_0 128) then (if 1 < (l1.length : Int) then (if (wrap64 (rd l1 1)) = 0 then (some (([] : List Int), wrap64 (rd l1 1), 4)) else (pdu_AnswerParse.j1 k l1 a0_0 a0_1 a0_2 l0_3 a0_4 a0_5 a0_6 ([] : List Int) (wrap64 (rd l1 1)))) else (none)) else (if a0_0 = 1 then (pdu_AnswerParse.j0 k l1 true a0_0 a0_1 a0_2 l0_3 a0_4 a0_5 a0_6 0) else (pdu_AnswerParse.j0 k l1 (a0_0 == 2) a0_0 a0_1 a0_2 l0_3 a0_4 a0_5 a0_6 0))) else (none))) else (some (([] : List Int), 0, t359)))) = some (r1, r2, r3) := h
 clear h
 replace H := Option.bind_eq_some_iff.mp H
 obtain ⟨t359, A30, H⟩ := H
 replace H : (if t359 = 0 then (if (l1.length : Int) < 2 then (some (([] : List Int), 0, 4)) else (if 0 < (l1.length : Int) then (if (wrap64 (rd l1 0)) = (Go.bits .or .i64 a0_0 128) then (if 1 < (l1.length : Int) then (if (wrap64 (rd l1 1)) = 0 then (some (([] : List Int), wrap64 (rd l1 1), 4)) else (pdu_AnswerParse.j1 k l1 a0_0 a0_1 a0_2 l0_3 a0_4 a0_5 a0_6 ([] : List Int) (wrap64 (rd l1 1)))) else (none)) else (if a0_0 = 1 then (pdu_AnswerParse.j0 k l1 true a0_0 a0_1 a0_2 l0_3 a0_4 a0_5 a0_6 0) else (pdu_AnswerParse.j0 k l1 (a0_0 == 2) a0_0 a0_1 a0_2 l0_3 a0_4 a0_5 a0_6 0))) else (none))) else (some (([] : List Int), 0, t359))) = some (r1, r2, r3) := H
 have A3 := Aside0.mk A30
 clear A30
 by_cases c4 : t359 = 0
 ·rw [if_pos c4] at H
  have c4b0 : (t359 == 0) = true := beq_iff_eq.mpr c4
  have c4b1 : (t359 != 0) = false := bne_eq_false_iff_eq.mpr c4
  clear c4
  have HC5 := Aside0.mk H
  clear H
  go_enter Try.func39, Try.ntmps39
  go_upto_block 0 with (first | ((with_reducible refine gate_dst (N := 2) rfl ?_); refine bx_ (N := 2) (cs := #[.int .i64 a0_0, .int .i64 a0_1, .int .i64 a0_2, .slice A0_3 l0_3.length c0_3, .int .i64 a0_4, .int .i64 a0_5, .int .i64 a0_6]) (t := 24) ?_; intro gb357 hg w6 hbox hb; have n0_ := Aside0.mk (below_step (bl0_ HB) hb); have n1_ := Aside0.mk (hbox); have n2_ := Aside0.mk ((by rw [hg]; exact (below_size (bl0_ HB)) : w.heap.size ≤ gb357)); have n3_ := Aside0.mk ((by rw [hg]; exact (below_size (bl0_ HB)) : w.heap.size ≤ gb357)); clear HB; have HB := n0_; have BK357 := n1_; have GW357 := n2_; have GE357 := n3_; clear n0_ n1_ n2_ n3_; clear hb hbox hg) | ((with_reducible refine gate_dst (N := 4) rfl ?_); refine bx_ (N := 4) (cs := #[.slice none 0 0, .int .i64 0]) (t := 30) ?_; intro gb358 hg w7 hbox hb; have n0_ := Aside0.mk (blk_below (g := gb357) (bk_ BK357) hb); have n1_ := Aside0.mk (below_step (bl1_ HB GE357) hb); have n2_ := Aside0.mk (hbox); have n3_ := Aside0.mk ((by rw [hg]; exact (below_size (bl1_ HB GE357)) : w.heap.size ≤ gb358)); have n4_ := Aside0.mk ((by rw [hg]; exact (below_size (bl1_ HB GE357)) : w.heap.size ≤ gb358)); have n5_ := Aside0.mk ((by rw [hg]; exact Nat.ne_of_lt (blk_lt (g := gb357) (bk_ BK357)) : gb357 ≠ gb358)); have n6_ := Aside0.mk ((by rw [hg]; exact Nat.ne_of_gt (blk_lt (g := gb357) (bk_ BK357)) : gb358 ≠ gb357)); clear BK357; clear HB; have BK357 := n0_; have HB := n1_; have BK358 := n2_; have GW358 := n3_; have GE358 := n4_; have NB357_358 := n5_; have NB358_357 := n6_; clear n0_ n1_ n2_ n3_ n4_ n5_ n6_; clear hb hbox hg; have hnb8 := NB357_358.out; have hnc8 := NB358_357.out; refine cz7_ BK357.out ?_; intro hcz9_0 hcz9_1 hcz9_2 hcz9_3 hcz9_4 hcz9_5 hcz9_6 hfz9_0 hfz9_1 hfz9_2 hfz9_3 hfz9_4 hfz9_5 hfz9_6) | ((with_reducible refine gate_callee (f := 29) rfl ?_); refine goesL_ (some 11) rfl rfl Try.func29 (by kernel_rfl) rfl #[.agg #[.int .i64 a0_0, .int .i64 a0_1, .int .i64 a0_2, .slice A0_3 l0_3.length c0_3, .int .i64 a0_4, .int .i64 a0_5, .int .i64 a0_6]] rfl ar_ ?_; (with_reducible refine (pdu_Check.calls k a0_0 a0_1 a0_2 _ _ l0_3 a0_4 a0_5 a0_6 t359 _ ?side1 ?side2 A3.out).mono ?_); (case side1 => exact sc_ (Kd.C_below HR0_3.out HB.out)); (case side2 => exact HC0_3.out); rintro e w10 ⟨rfl, hb⟩; refine ⟨_, rfl, ?_⟩; have n0_ := Aside0.mk (blk_below (g := gb357) (bk_ BK357) hb); have n1_ := Aside0.mk (blk_below (g := gb358) (bk_ BK358) hb); have n2_ := Aside0.mk (below_step (bl2_ HB GE357 GE358) hb); clear BK357; clear BK358; clear HB; have BK357 := n0_; have BK358 := n1_; have HB := n2_; clear n0_ n1_ n2_; (try clear hb); (try clear hb2); (try clear hk); (try clear hi)) | ((with_reducible refine gate_dst (N := 7) rfl ?_); refine bx_ (N := 7) (cs := #[.slice none 0 0, .int .i64 0]) (t := 30) ?_; intro gb360 hg w11 hbox hb; have n0_ := Aside0.mk (blk_below (g := gb357) (bk_ BK357) hb); have n1_ := Aside0.mk (blk_below (g := gb358) (bk_ BK358) hb); have n2_ := Aside0.mk (below_step (bl2_ HB GE357 GE358) hb); have n3_ := Aside0.mk (hbox); have n4_ := Aside0.mk ((by rw [hg]; exact (below_size (bl2_ HB GE357 GE358)) : w.heap.size ≤ gb360)); have n5_ := Aside0.mk ((by rw [hg]; exact (below_size (bl2_ HB GE357 GE358)) : w.heap.size ≤ gb360)); have n6_ := Aside0.mk ((by rw [hg]; exact Nat.ne_of_lt (blk_lt (g := gb357) (bk_ BK357)) : gb357 ≠ gb360)); have n7_ := Aside0.mk ((by rw [hg]; exact Nat.ne_of_gt (blk_lt (g := gb357) (bk_ BK357)) : gb360 ≠ gb357)); have n8_ := Aside0.mk ((by rw [hg]; exact Nat.ne_of_lt (blk_lt (g := gb358) (bk_ BK358)) : gb358 ≠ gb360)); have n9_ := Aside0.mk ((by rw [hg]; exact Nat.ne_of_gt (blk_lt (g := gb358) (bk_ BK358)) : gb360 ≠ gb358)); clear BK357; clear BK358; clear HB; have BK357 := n0_; have BK358 := n1_; have HB := n2_; have BK360 := n3_; have GW360 := n4_; have GE360 := n5_; have NB357_360 := n6_; have NB360_357 := n7_; have NB358_360 := n8_; have NB360_358 := n9_; clear n0_ n1_ n2_ n3_ n4_ n5_ n6_ n7_ n8_ n9_; clear hb hbox hg))
  (try simp only [Act.put, List.setIfInBounds_toArray, List.set_cons_zero, List.set_cons_succ])
  go_cut [] (fun wc => ∃ (kq : Nat) (x359001_4 : Int) (x361000_4 : List Int) (x361001_4 : Int) (u361000 : Value), Aside0 (pdu_AnswerParse.j1 kq l1 a0_0 a0_1 a0_2 l0_3 a0_4 a0_5 a0_6 x361000_4 x361001_4 = some (r1, r2, r3)) ∧ Aside0 (kq ≤ k) ∧ Aside0 (Kd.R (Kd.int .i64) 3 wc w.heap.size (fun _ => True) u361000 x361000_4) ∧ Aside0 (wc.heap[gb357]? = some (.cells #[.int .i64 a0_0, .int .i64 a0_1, .int .i64 a0_2, (.slice A0_3 l0_3.length c0_3), .int .i64 a0_4, .int .i64 a0_5, .int .i64 a0_6] 24 (0, 0))) ∧ Aside0 (wc.heap[gb358]? = some (.cells #[(.slice none 0 0), .int .i64 x359001_4] 30 (0, 0))) ∧ Aside0 (wc.heap[gb360]? = some (.cells #[u361000, .int .i64 x361001_4] 30 (0, 0))) ∧ Aside0 (Below w.heap.size w wc))
  case first =>
   have H := HC5.out
   clear HC5
   by_cases c12 : (l1.length : Int) < 2
   ·rw [if_pos c12] at H
    have c12b0 : decide ((l1.length : Int) < 2) = true := decide_eq_true c12
    have c12b1 : decide (l1.length < 2) = true := decide_eq_true (by omega)
    clear c12
    (first | rw [c12b0] | (simp only [i64_w, i32_w]; rw [c12b0]) | skip)
    simp only [Option.some.injEq, Prod.mk.injEq] at H
    obtain ⟨rfl, rfl, rfl⟩ := H
    have hnb13 := NB360_357.out
    have hnc13 := NB357_360.out
    have hnb14 := NB360_358.out
    have hnc14 := NB358_360.out
    refine cz2_ BK360.out ?_; intro hcz15_0 hcz15_1 hfz15_0 hfz15_1
    have hnb16 := NB358_357.out
    have hnc16 := NB357_358.out
    refine cz2_ BK358.out ?_; intro hcz17_0 hcz17_1 hfz17_0 hfz17_1
    go_wp2
    refine bodyPost_ret (results_ct rfl _ _ gb358 30 #[.slice none 0 0, .int .i64 0] (0, 0) _ rfl (by (with_reducible repeat (first | refine blk_drewN ?_ _ | refine blk_drew ?_ | refine blk_alloc ?_ _)); refine blk_put (cs := #[.slice none 0 0, .int .i64 0]) ?_ 1 _ rfl; (with_reducible repeat (first | refine blk_drewN ?_ _ | refine blk_drew ?_ | refine blk_alloc ?_ _)); refine blk_put (cs := #[.slice none 0 0, .int .i64 0]) ?_ 0 _ rfl; (with_reducible repeat (first | refine blk_drewN ?_ _ | refine blk_drew ?_ | refine blk_alloc ?_ _)); exact BK358.out) Try.underlying30 rfl (by kernel_rfl)) rfl ?_
    exact ⟨_, er_, by first | exact Kd.R_nil _ _ _ _ _ | exact Kd.N_nil _ _ _ _ _ | exact Kd.V_nil _ _ _ _ _ | exact Kd.Q_nil _ _ _ _ _ | exact Kd.S_nil _ _ _ _ _, bl3_ HB GE357 GE358 GE360⟩
   ·rw [if_neg c12] at H
    have c12b0 : decide ((l1.length : Int) < 2) = false := decide_eq_false c12
    have c12b1 : decide (l1.length < 2) = false := decide_eq_false (by omega)
    clear c12
    (first | rw [c12b0] | (simp only [i64_w, i32_w]; rw [c12b0]) | skip)
    by_cases c18 : 0 < (l1.length : Int)
    ·rw [if_pos c18] at H
     have c18b0 : decide (0 < (l1.length : Int)) = true := decide_eq_true c18
     have c18b1 : decide (0 < l1.length) = true := decide_eq_true (by omega)
     clear c18
     by_cases c19 : (wrap64 (rd l1 0)) = (Go.bits .or .i64 a0_0 128)
     ·rw [if_pos c19] at H
      have c19b0 : ((wrap64 (rd l1 0)) == (Go.bits .or .i64 a0_0 128)) = true := beq_iff_eq.mpr c19
      have c19b1 : ((wrap64 (rd l1 0)) != (Go.bits .or .i64 a0_0 128)) = false := bne_eq_false_iff_eq.mpr c19
      clear c19
      by_cases c20 : 1 < (l1.length : Int)
      ·rw [if_pos c20] at H
       have c20b0 : decide (1 < (l1.length : Int)) = true := decide_eq_true c20
       have c20b1 : decide (1 < l1.length) = true := decide_eq_true (by omega)
       clear c20
       by_cases c21 : (wrap64 (rd l1 1)) = 0
       ·rw [if_pos c21] at H
        have c21b0 : ((wrap64 (rd l1 1)) == 0) = true := beq_iff_eq.mpr c21
        have c21b1 : ((wrap64 (rd l1 1)) != 0) = false := bne_eq_false_iff_eq.mpr c21
        clear c21
        simp only [Option.some.injEq, Prod.mk.injEq] at H
        obtain ⟨rfl, rfl, rfl⟩ := H
        try go_wp2
        have n0_ := Aside0.mk (blk_drew BK357.out)
        have n1_ := Aside0.mk (blk_drew BK358.out)
        have n2_ := Aside0.mk (blk_drew BK360.out)
        have n3_ := Aside0.mk (below_drew1 HB.out)
        clear BK357
        clear BK358
        clear BK360
        clear HB
        have BK357 := n0_
        have BK358 := n1_
        have BK360 := n2_
        have HB := n3_
        clear n0_ n1_ n2_ n3_
        have p361 : 0 ≤ (0 : Int) := (by omega)
        have q361 : 0 < (l1.length : Int) := of_decide_eq_true (by first | (with_reducible assumption) | assumption)
        obtain ⟨ad361, e361, hx361_0⟩ := Kd.at_int HR1.out 0 p361 q361
        have hw361_0 := hx361_0
        (try rw [show ((0 : Int)).toNat = 0 from rfl] at hw361_0)
        (try rw [show 0 * 1 = 0 from rfl] at hw361_0)
        (try rw [Addr.add_zero'] at hw361_0)
        cases e361
        have qi361 : (0 < l1.length) = True := eq_true (by omega)
        (try rw [show ((0 : Int)).toNat = 0 from rfl] at hx361_0)
        (try rw [Addr.add_zero'] at hx361_0)
        replace hx361_0 := (HB.out.cell (World.block_lt_of_cell? w _ hx361_0)).trans hx361_0
        replace p361 := eq_true p361
        replace q361 := eq_true q361
        refine start_ (n := 9) (S := fun w' => w'.cell? ⟨gb357, 0, none⟩ = some (.int .i64 a0_0) ∧ w'.cell? ⟨gb357, 1, none⟩ = some (.int .i64 a0_1) ∧ w'.cell? ⟨gb357, 2, none⟩ = some (.int .i64 a0_2) ∧ w'.cell? ⟨gb357, 3, none⟩ = some (.slice A0_3 l0_3.length c0_3) ∧ w'.cell? ⟨gb357, 4, none⟩ = some (.int .i64 a0_4) ∧ w'.cell? ⟨gb357, 5, none⟩ = some (.int .i64 a0_5) ∧ w'.cell? ⟨gb357, 6, none⟩ = some (.int .i64 a0_6) ∧ w'.cell? ad361 = some (.int .u8 (rd l1 0))) (ds := []) #[false, false, false, false, false, false, false, false, false] (by kernel_rfl) rfl rfl ⟨(blk_cell BK357.out 0).trans rfl, (blk_cell BK357.out 1).trans rfl, (blk_cell BK357.out 2).trans rfl, (blk_cell BK357.out 3).trans rfl, (blk_cell BK357.out 4).trans rfl, (blk_cell BK357.out 5).trans rfl, (blk_cell BK357.out 6).trans rfl, ((HB.out.cell (World.block_lt_of_cell? w _ hw361_0)).trans hw361_0)⟩ (fun hHeld => ?_); refine with_tabW pdu_AnswerParse.tab7 pdu_AnswerParse.bits7 (fun HT_ HW_ => ?_)
        generalize w11.drew = w22 at BK357 BK358 BK360 HB hx361_0 hHeld ⊢
        refine pure_ (i := 0) (N := some 22) (v := ?_) (a' := ?_) #[true, false, false, false, false, false, false, false, false] rfl rfl (any_of HT_.out (by kernel_rfl)) (fun _ _ _ h => h) (Or.inl ⟨by rfl, ?_⟩) ?_ ?_
        rotate_left
        ·intro w'
         go_simp
         with_reducible rfl
        rotate_left
        ·simp only [Act.put, List.setIfInBounds_toArray, List.set_cons_zero, List.set_cons_succ, i64_w, i32_w]
         rfl
        refine pure_ (i := 1) (N := some 23) (v := ?_) (a' := ?_) #[true, true, false, false, false, false, false, false, false] rfl rfl (any_of HT_.out (by kernel_rfl)) (fun _ _ _ h => h) (Or.inl ⟨by rfl, ?_⟩) ?_ ?_
        rotate_left
        ·intro w'
         go_simp
         with_reducible rfl
        rotate_left
        ·simp only [Act.put, List.setIfInBounds_toArray, List.set_cons_zero, List.set_cons_succ, i64_w, i32_w]
         rfl
        refine pure_ (i := 4) (N := some 26) (v := ?_) (a' := ?_) #[true, true, false, false, true, false, false, false, false] rfl rfl (any_of HT_.out (by kernel_rfl)) (fun _ _ _ h => h) (Or.inl ⟨by rfl, ?_⟩) ?_ ?_
        rotate_left
        ·intro w'
         go_simp
         with_reducible rfl
        rotate_left
        ·simp only [Act.put, List.setIfInBounds_toArray, List.set_cons_zero, List.set_cons_succ, i64_w, i32_w]
         rfl
        refine take_ (i := 2) (N := some 24) (v := ?_) (a' := ?_) #[true, true, true, false, true, false, false, false, false] rfl rfl (take_ofW HT_.out HW_.out (by kernel_rfl)) (fun _ _ _ h => h) (Or.inl ⟨by rfl, ?_⟩) hHeld ?_ ?_
        rotate_left
        ·rintro w' ⟨s0, s1, s2, s3, s4, s5, s6, s7⟩
         go_simp
         with_reducible rfl
        rotate_left
        ·simp only [Act.put, List.setIfInBounds_toArray, List.set_cons_zero, List.set_cons_succ, i64_w, i32_w]
         rfl
        refine pure_ (i := 3) (N := some 25) (v := ?_) (a' := ?_) #[true, true, true, true, true, false, false, false, false] rfl rfl (any_of HT_.out (by kernel_rfl)) (fun _ _ _ h => h) (Or.inl ⟨by rfl, ?_⟩) ?_ ?_
        rotate_left
        ·intro w'
         go_simp
         with_reducible rfl
        rotate_left
        ·simp only [Act.put, List.setIfInBounds_toArray, List.set_cons_zero, List.set_cons_succ, i64_w, i32_w]
         rfl
        refine take_ (i := 5) (N := some 27) (v := ?_) (a' := ?_) #[true, true, true, true, true, true, false, false, false] rfl rfl (take_ofW HT_.out HW_.out (by kernel_rfl)) (fun _ _ _ h => h) (Or.inl ⟨by rfl, ?_⟩) hHeld ?_ ?_
        rotate_left
        ·rintro w' ⟨s0, s1, s2, s3, s4, s5, s6, s7⟩
         go_simp
         with_reducible rfl
        rotate_left
        ·simp only [Act.put, List.setIfInBounds_toArray, List.set_cons_zero, List.set_cons_succ, i64_w, i32_w]
         rfl
        refine pure_ (i := 6) (N := some 28) (v := ?_) (a' := ?_) #[true, true, true, true, true, true, true, false, false] rfl rfl (any_of HT_.out (by kernel_rfl)) (fun _ _ _ h => h) (Or.inl ⟨by rfl, ?_⟩) ?_ ?_
        rotate_left
        ·intro w'
         go_simp
         with_reducible rfl
        rotate_left
        ·simp only [Act.put, List.setIfInBounds_toArray, List.set_cons_zero, List.set_cons_succ, i64_w, i32_w]
         rfl
        refine pure_ (i := 7) (N := some 29) (v := ?_) (a' := ?_) #[true, true, true, true, true, true, true, true, false] rfl rfl (any_of HT_.out (by kernel_rfl)) (fun _ _ _ h => h) (Or.inl ⟨by rfl, ?_⟩) ?_ ?_
        rotate_left
        ·intro w'
         go_simp
         with_reducible rfl
        rotate_left
        ·simp only [Act.put, List.setIfInBounds_toArray, List.set_cons_zero, List.set_cons_succ, i64_w, i32_w]
         rfl
        refine pure_ (i := 8) (N := some 21) (v := ?_) (a' := ?_) #[true, true, true, true, true, true, true, true, true] rfl rfl (any_of HT_.out (by kernel_rfl)) (fun _ _ _ h => h) (Or.inl ⟨by rfl, ?_⟩) ?_ ?_
        rotate_left
        ·intro w'
         go_simp
         with_reducible rfl
        rotate_left
        ·simp only [Act.put, List.setIfInBounds_toArray, List.set_cons_zero, List.set_cons_succ, i64_w, i32_w]
         rfl
        refine done_ (done_of HT_.out (by kernel_rfl)) ?_
        have p362 : 0 ≤ (1 : Int) := (by omega)
        have q362 : 1 < (l1.length : Int) := of_decide_eq_true (by first | (with_reducible assumption) | assumption)
        obtain ⟨ad362, e362, hx362_0⟩ := Kd.at_int HR1.out 1 p362 q362
        obtain rfl : ad361 = ad362 := (by injection e362)
        (try simp only [show (1 : Int).toNat = 1 from rfl, Nat.reduceMul, Nat.reduceEqDiff, Go.Addr.add, ↓reduceIte] at hx362_0)
        have qi362 : (1 < l1.length) = True := eq_true (by omega)
        (try rw [show ((1 : Int)).toNat = 1 from rfl] at hx362_0)
        replace hx362_0 := (HB.out.cell (World.block_lt_of_cell? w _ hx362_0)).trans hx362_0
        replace p362 := eq_true p362
        replace q362 := eq_true q362
        have hnb23 := NB360_357.out
        have hnc23 := NB357_360.out
        have hnb24 := NB360_358.out
        have hnc24 := NB358_360.out
        refine cz2_ BK360.out ?_; intro hcz25_0 hcz25_1 hfz25_0 hfz25_1
        have hnb26 := NB358_357.out
        have hnc26 := NB357_358.out
        refine cz2_ BK358.out ?_; intro hcz27_0 hcz27_1 hfz27_0 hfz27_1
        try go_wp2
        refine bodyPost_ret (results_ct rfl _ _ gb358 30 #[.slice none 0 0, .int .i64 (wrap64 (rd l1 1))] (0, 0) _ rfl (by (with_reducible repeat (first | refine blk_drewN ?_ _ | refine blk_drew ?_ | refine blk_alloc ?_ _)); refine blk_put (cs := #[.slice none 0 0, .int .i64 0]) ?_ 1 _ rfl; (with_reducible repeat (first | refine blk_drewN ?_ _ | refine blk_drew ?_ | refine blk_alloc ?_ _)); refine blk_put (cs := #[.slice none 0 0, .int .i64 0]) ?_ 0 _ rfl; (with_reducible repeat (first | refine blk_drewN ?_ _ | refine blk_drew ?_ | refine blk_alloc ?_ _)); refine blk_far ?_ NB358_360.out _; (with_reducible repeat (first | refine blk_drewN ?_ _ | refine blk_drew ?_ | refine blk_alloc ?_ _)); exact BK358.out) Try.underlying30 rfl (by kernel_rfl)) rfl ?_
        exact ⟨_, er_, by first | exact Kd.R_nil _ _ _ _ _ | exact Kd.N_nil _ _ _ _ _ | exact Kd.V_nil _ _ _ _ _ | exact Kd.Q_nil _ _ _ _ _ | exact Kd.S_nil _ _ _ _ _, bl3_ HB GE357 GE358 GE360⟩
       ·rw [if_neg c21] at H
        have c21b0 : ((wrap64 (rd l1 1)) == 0) = false := beq_eq_false_iff_ne.mpr c21
        have c21b1 : ((wrap64 (rd l1 1)) != 0) = true := bne_iff_ne.mpr c21
        have H' := Aside0.mk H
        clear H
        try go_wp2
        have n0_ := Aside0.mk (blk_drew BK357.out)
        have n1_ := Aside0.mk (blk_drew BK358.out)
        have n2_ := Aside0.mk (blk_drew BK360.out)
        have n3_ := Aside0.mk (below_drew1 HB.out)
        clear BK357
        clear BK358
        clear BK360
        clear HB
        have BK357 := n0_
        have BK358 := n1_
        have BK360 := n2_
        have HB := n3_
        clear n0_ n1_ n2_ n3_
        have p361 : 0 ≤ (0 : Int) := (by omega)
        have q361 : 0 < (l1.length : Int) := of_decide_eq_true (by first | (with_reducible assumption) | assumption)
        obtain ⟨ad361, e361, hx361_0⟩ := Kd.at_int HR1.out 0 p361 q361
        have hw361_0 := hx361_0
        (try rw [show ((0 : Int)).toNat = 0 from rfl] at hw361_0)
        (try rw [show 0 * 1 = 0 from rfl] at hw361_0)
        (try rw [Addr.add_zero'] at hw361_0)
        cases e361
        have qi361 : (0 < l1.length) = True := eq_true (by omega)
        (try rw [show ((0 : Int)).toNat = 0 from rfl] at hx361_0)
        (try rw [Addr.add_zero'] at hx361_0)
        replace hx361_0 := (HB.out.cell (World.block_lt_of_cell? w _ hx361_0)).trans hx361_0
        replace p361 := eq_true p361
        replace q361 := eq_true q361
        refine start_ (n := 9) (S := fun w' => w'.cell? ⟨gb357, 0, none⟩ = some (.int .i64 a0_0) ∧ w'.cell? ⟨gb357, 1, none⟩ = some (.int .i64 a0_1) ∧ w'.cell? ⟨gb357, 2, none⟩ = some (.int .i64 a0_2) ∧ w'.cell? ⟨gb357, 3, none⟩ = some (.slice A0_3 l0_3.length c0_3) ∧ w'.cell? ⟨gb357, 4, none⟩ = some (.int .i64 a0_4) ∧ w'.cell? ⟨gb357, 5, none⟩ = some (.int .i64 a0_5) ∧ w'.cell? ⟨gb357, 6, none⟩ = some (.int .i64 a0_6) ∧ w'.cell? ad361 = some (.int .u8 (rd l1 0))) (ds := []) #[false, false, false, false, false, false, false, false, false] (by kernel_rfl) rfl rfl ⟨(blk_cell BK357.out 0).trans rfl, (blk_cell BK357.out 1).trans rfl, (blk_cell BK357.out 2).trans rfl, (blk_cell BK357.out 3).trans rfl, (blk_cell BK357.out 4).trans rfl, (blk_cell BK357.out 5).trans rfl, (blk_cell BK357.out 6).trans rfl, ((HB.out.cell (World.block_lt_of_cell? w _ hw361_0)).trans hw361_0)⟩ (fun hHeld => ?_); refine with_tabW pdu_AnswerParse.tab7 pdu_AnswerParse.bits7 (fun HT_ HW_ => ?_)
        generalize w11.drew = w28 at BK357 BK358 BK360 HB hx361_0 hHeld ⊢
        refine pure_ (i := 0) (N := some 22) (v := ?_) (a' := ?_) #[true, false, false, false, false, false, false, false, false] rfl rfl (any_of HT_.out (by kernel_rfl)) (fun _ _ _ h => h) (Or.inl ⟨by rfl, ?_⟩) ?_ ?_
        rotate_left
        ·intro w'
         go_simp
         with_reducible rfl
        rotate_left
        ·simp only [Act.put, List.setIfInBounds_toArray, List.set_cons_zero, List.set_cons_succ, i64_w, i32_w]
         rfl
        refine pure_ (i := 1) (N := some 23) (v := ?_) (a' := ?_) #[true, true, false, false, false, false, false, false, false] rfl rfl (any_of HT_.out (by kernel_rfl)) (fun _ _ _ h => h) (Or.inl ⟨by rfl, ?_⟩) ?_ ?_
        rotate_left
        ·intro w'
         go_simp
         with_reducible rfl
        rotate_left
        ·simp only [Act.put, List.setIfInBounds_toArray, List.set_cons_zero, List.set_cons_succ, i64_w, i32_w]
         rfl
        refine pure_ (i := 4) (N := some 26) (v := ?_) (a' := ?_) #[true, true, false, false, true, false, false, false, false] rfl rfl (any_of HT_.out (by kernel_rfl)) (fun _ _ _ h => h) (Or.inl ⟨by rfl, ?_⟩) ?_ ?_
        rotate_left
        ·intro w'
         go_simp
         with_reducible rfl
        rotate_left
        ·simp only [Act.put, List.setIfInBounds_toArray, List.set_cons_zero, List.set_cons_succ, i64_w, i32_w]
         rfl
        refine take_ (i := 2) (N := some 24) (v := ?_) (a' := ?_) #[true, true, true, false, true, false, false, false, false] rfl rfl (take_ofW HT_.out HW_.out (by kernel_rfl)) (fun _ _ _ h => h) (Or.inl ⟨by rfl, ?_⟩) hHeld ?_ ?_
        rotate_left
        ·rintro w' ⟨s0, s1, s2, s3, s4, s5, s6, s7⟩
         go_simp
         with_reducible rfl
        rotate_left
        ·simp only [Act.put, List.setIfInBounds_toArray, List.set_cons_zero, List.set_cons_succ, i64_w, i32_w]
         rfl
        refine pure_ (i := 3) (N := some 25) (v := ?_) (a' := ?_) #[true, true, true, true, true, false, false, false, false] rfl rfl (any_of HT_.out (by kernel_rfl)) (fun _ _ _ h => h) (Or.inl ⟨by rfl, ?_⟩) ?_ ?_
        rotate_left
        ·intro w'
         go_simp
         with_reducible rfl
        rotate_left
        ·simp only [Act.put, List.setIfInBounds_toArray, List.set_cons_zero, List.set_cons_succ, i64_w, i32_w]
         rfl
        refine take_ (i := 5) (N := some 27) (v := ?_) (a' := ?_) #[true, true, true, true, true, true, false, false, false] rfl rfl (take_ofW HT_.out HW_.out (by kernel_rfl)) (fun _ _ _ h => h) (Or.inl ⟨by rfl, ?_⟩) hHeld ?_ ?_
        rotate_left
        ·rintro w' ⟨s0, s1, s2, s3, s4, s5, s6, s7⟩
         go_simp
         with_reducible rfl
        rotate_left
        ·simp only [Act.put, List.setIfInBounds_toArray, List.set_cons_zero, List.set_cons_succ, i64_w, i32_w]
         rfl
        refine pure_ (i := 6) (N := some 28) (v := ?_) (a' := ?_) #[true, true, true, true, true, true, true, false, false] rfl rfl (any_of HT_.out (by kernel_rfl)) (fun _ _ _ h => h) (Or.inl ⟨by rfl, ?_⟩) ?_ ?_
        rotate_left
        ·intro w'
         go_simp
         with_reducible rfl
        rotate_left
        ·simp only [Act.put, List.setIfInBounds_toArray, List.set_cons_zero, List.set_cons_succ, i64_w, i32_w]
         rfl
        refine pure_ (i := 7) (N := some 29) (v := ?_) (a' := ?_) #[true, true, true, true, true, true, true, true, false] rfl rfl (any_of HT_.out (by kernel_rfl)) (fun _ _ _ h => h) (Or.inl ⟨by rfl, ?_⟩) ?_ ?_
        rotate_left
        ·intro w'
         go_simp
         with_reducible rfl
        rotate_left
        ·simp only [Act.put, List.setIfInBounds_toArray, List.set_cons_zero, List.set_cons_succ, i64_w, i32_w]
         rfl
        refine pure_ (i := 8) (N := some 21) (v := ?_) (a' := ?_) #[true, true, true, true, true, true, true, true, true] rfl rfl (any_of HT_.out (by kernel_rfl)) (fun _ _ _ h => h) (Or.inl ⟨by rfl, ?_⟩) ?_ ?_
        rotate_left
        ·intro w'
         go_simp
         with_reducible rfl
        rotate_left
        ·simp only [Act.put, List.setIfInBounds_toArray, List.set_cons_zero, List.set_cons_succ, i64_w, i32_w]
         rfl
        refine done_ (done_of HT_.out (by kernel_rfl)) ?_
        have p362 : 0 ≤ (1 : Int) := (by omega)
        have q362 : 1 < (l1.length : Int) := of_decide_eq_true (by first | (with_reducible assumption) | assumption)
        obtain ⟨ad362, e362, hx362_0⟩ := Kd.at_int HR1.out 1 p362 q362
        obtain rfl : ad361 = ad362 := (by injection e362)
        (try simp only [show (1 : Int).toNat = 1 from rfl, Nat.reduceMul, Nat.reduceEqDiff, Go.Addr.add, ↓reduceIte] at hx362_0)
        have qi362 : (1 < l1.length) = True := eq_true (by omega)
        (try rw [show ((1 : Int)).toNat = 1 from rfl] at hx362_0)
        replace hx362_0 := (HB.out.cell (World.block_lt_of_cell? w _ hx362_0)).trans hx362_0
        replace p362 := eq_true p362
        replace q362 := eq_true q362
        have hnb29 := NB360_357.out
        have hnc29 := NB357_360.out
        have hnb30 := NB360_358.out
        have hnc30 := NB358_360.out
        refine cz2_ BK360.out ?_; intro hcz31_0 hcz31_1 hfz31_0 hfz31_1
        try go_wp2
        go_meet
        case rel => exact ⟨_, (0), (([] : List Int)), (wrap64 (rd l1 1)), (.slice none 0 0), H', ⟨by first | omega | exact Nat.le_refl _⟩, ⟨by first | exact Kd.R_nil _ _ _ _ _ | exact Kd.N_nil _ _ _ _ _ | exact Kd.V_nil _ _ _ _ _ | exact Kd.Q_nil _ _ _ _ _ | exact Kd.S_nil _ _ _ _ _⟩, ⟨by (with_reducible repeat (first | refine blk_drewN ?_ _ | refine blk_drew ?_ | refine blk_alloc ?_ _)); refine blk_far ?_ NB357_360.out _; (with_reducible repeat (first | refine blk_drewN ?_ _ | refine blk_drew ?_ | refine blk_alloc ?_ _)); exact BK357.out⟩, ⟨by (with_reducible repeat (first | refine blk_drewN ?_ _ | refine blk_drew ?_ | refine blk_alloc ?_ _)); refine blk_far ?_ NB358_360.out _; (with_reducible repeat (first | refine blk_drewN ?_ _ | refine blk_drew ?_ | refine blk_alloc ?_ _)); exact BK358.out⟩, ⟨by (with_reducible repeat (first | refine blk_drewN ?_ _ | refine blk_drew ?_ | refine blk_alloc ?_ _)); refine blk_put (cs := #[.slice none 0 0, .int .i64 0]) ?_ 1 _ rfl; (with_reducible repeat (first | refine blk_drewN ?_ _ | refine blk_drew ?_ | refine blk_alloc ?_ _)); exact BK360.out⟩, ⟨bl3_ HB GE357 GE358 GE360⟩⟩
      ·rw [if_neg c20] at H
       exact absurd H (by simp)
     ·rw [if_neg c19] at H
      have c19b0 : ((wrap64 (rd l1 0)) == (Go.bits .or .i64 a0_0 128)) = false := beq_eq_false_iff_ne.mpr c19
      have c19b1 : ((wrap64 (rd l1 0)) != (Go.bits .or .i64 a0_0 128)) = true := bne_iff_ne.mpr c19
      have HC32 := Aside0.mk H
      clear H
      try go_wp2
      have n0_ := Aside0.mk (blk_drew BK357.out)
      have n1_ := Aside0.mk (blk_drew BK358.out)
      have n2_ := Aside0.mk (blk_drew BK360.out)
      have n3_ := Aside0.mk (below_drew1 HB.out)
      clear BK357
      clear BK358
      clear BK360
      clear HB
      have BK357 := n0_
      have BK358 := n1_
      have BK360 := n2_
      have HB := n3_
      clear n0_ n1_ n2_ n3_
      have p361 : 0 ≤ (0 : Int) := (by omega)
      have q361 : 0 < (l1.length : Int) := of_decide_eq_true (by first | (with_reducible assumption) | assumption)
      obtain ⟨ad361, e361, hx361_0⟩ := Kd.at_int HR1.out 0 p361 q361
      have hw361_0 := hx361_0
      (try rw [show ((0 : Int)).toNat = 0 from rfl] at hw361_0)
      (try rw [show 0 * 1 = 0 from rfl] at hw361_0)
      (try rw [Addr.add_zero'] at hw361_0)
      cases e361
      have qi361 : (0 < l1.length) = True := eq_true (by omega)
      (try rw [show ((0 : Int)).toNat = 0 from rfl] at hx361_0)
      (try rw [Addr.add_zero'] at hx361_0)
      replace hx361_0 := (HB.out.cell (World.block_lt_of_cell? w _ hx361_0)).trans hx361_0
      replace p361 := eq_true p361
      replace q361 := eq_true q361
      refine start_ (n := 9) (S := fun w' => w'.cell? ⟨gb357, 0, none⟩ = some (.int .i64 a0_0) ∧ w'.cell? ⟨gb357, 1, none⟩ = some (.int .i64 a0_1) ∧ w'.cell? ⟨gb357, 2, none⟩ = some (.int .i64 a0_2) ∧ w'.cell? ⟨gb357, 3, none⟩ = some (.slice A0_3 l0_3.length c0_3) ∧ w'.cell? ⟨gb357, 4, none⟩ = some (.int .i64 a0_4) ∧ w'.cell? ⟨gb357, 5, none⟩ = some (.int .i64 a0_5) ∧ w'.cell? ⟨gb357, 6, none⟩ = some (.int .i64 a0_6) ∧ w'.cell? ad361 = some (.int .u8 (rd l1 0))) (ds := []) #[false, false, false, false, false, false, false, false, false] (by kernel_rfl) rfl rfl ⟨(blk_cell BK357.out 0).trans rfl, (blk_cell BK357.out 1).trans rfl, (blk_cell BK357.out 2).trans rfl, (blk_cell BK357.out 3).trans rfl, (blk_cell BK357.out 4).trans rfl, (blk_cell BK357.out 5).trans rfl, (blk_cell BK357.out 6).trans rfl, ((HB.out.cell (World.block_lt_of_cell? w _ hw361_0)).trans hw361_0)⟩ (fun hHeld => ?_); refine with_tabW pdu_AnswerParse.tab7 pdu_AnswerParse.bits7 (fun HT_ HW_ => ?_)
      generalize w11.drew = w33 at BK357 BK358 BK360 HB hx361_0 hHeld ⊢
      refine pure_ (i := 0) (N := some 22) (v := ?_) (a' := ?_) #[true, false, false, false, false, false, false, false, false] rfl rfl (any_of HT_.out (by kernel_rfl)) (fun _ _ _ h => h) (Or.inl ⟨by rfl, ?_⟩) ?_ ?_
      rotate_left
      ·intro w'
       go_simp
       with_reducible rfl
      rotate_left
      ·simp only [Act.put, List.setIfInBounds_toArray, List.set_cons_zero, List.set_cons_succ, i64_w, i32_w]
       rfl
      refine pure_ (i := 1) (N := some 23) (v := ?_) (a' := ?_) #[true, true, false, false, false, false, false, false, false] rfl rfl (any_of HT_.out (by kernel_rfl)) (fun _ _ _ h => h) (Or.inl ⟨by rfl, ?_⟩) ?_ ?_
      rotate_left
      ·intro w'
       go_simp
       with_reducible rfl
      rotate_left
      ·simp only [Act.put, List.setIfInBounds_toArray, List.set_cons_zero, List.set_cons_succ, i64_w, i32_w]
       rfl
      refine pure_ (i := 4) (N := some 26) (v := ?_) (a' := ?_) #[true, true, false, false, true, false, false, false, false] rfl rfl (any_of HT_.out (by kernel_rfl)) (fun _ _ _ h => h) (Or.inl ⟨by rfl, ?_⟩) ?_ ?_
      rotate_left
      ·intro w'
       go_simp
       with_reducible rfl
      rotate_left
      ·simp only [Act.put, List.setIfInBounds_toArray, List.set_cons_zero, List.set_cons_succ, i64_w, i32_w]
       rfl
      refine take_ (i := 2) (N := some 24) (v := ?_) (a' := ?_) #[true, true, true, false, true, false, false, false, false] rfl rfl (take_ofW HT_.out HW_.out (by kernel_rfl)) (fun _ _ _ h => h) (Or.inl ⟨by rfl, ?_⟩) hHeld ?_ ?_
      rotate_left
      ·rintro w' ⟨s0, s1, s2, s3, s4, s5, s6, s7⟩
       go_simp
       with_reducible rfl
      rotate_left
      ·simp only [Act.put, List.setIfInBounds_toArray, List.set_cons_zero, List.set_cons_succ, i64_w, i32_w]
       rfl
      refine pure_ (i := 3) (N := some 25) (v := ?_) (a' := ?_) #[true, true, true, true, true, false, false, false, false] rfl rfl (any_of HT_.out (by kernel_rfl)) (fun _ _ _ h => h) (Or.inl ⟨by rfl, ?_⟩) ?_ ?_
      rotate_left
      ·intro w'
       go_simp
       with_reducible rfl
      rotate_left
      ·simp only [Act.put, List.setIfInBounds_toArray, List.set_cons_zero, List.set_cons_succ, i64_w, i32_w]
       rfl
      refine take_ (i := 5) (N := some 27) (v := ?_) (a' := ?_) #[true, true, true, true, true, true, false, false, false] rfl rfl (take_ofW HT_.out HW_.out (by kernel_rfl)) (fun _ _ _ h => h) (Or.inl ⟨by rfl, ?_⟩) hHeld ?_ ?_
      rotate_left
      ·rintro w' ⟨s0, s1, s2, s3, s4, s5, s6, s7⟩
       go_simp
       with_reducible rfl
      rotate_left
      ·simp only [Act.put, List.setIfInBounds_toArray, List.set_cons_zero, List.set_cons_succ, i64_w, i32_w]
       rfl
      refine pure_ (i := 6) (N := some 28) (v := ?_) (a' := ?_) #[true, true, true, true, true, true, true, false, false] rfl rfl (any_of HT_.out (by kernel_rfl)) (fun _ _ _ h => h) (Or.inl ⟨by rfl, ?_⟩) ?_ ?_
      rotate_left
      ·intro w'
       go_simp
       with_reducible rfl
      rotate_left
      ·simp only [Act.put, List.setIfInBounds_toArray, List.set_cons_zero, List.set_cons_succ, i64_w, i32_w]
       rfl
      refine pure_ (i := 7) (N := some 29) (v := ?_) (a' := ?_) #[true, true, true, true, true, true, true, true, false] rfl rfl (any_of HT_.out (by kernel_rfl)) (fun _ _ _ h => h) (Or.inl ⟨by rfl, ?_⟩) ?_ ?_
      rotate_left
      ·intro w'
       go_simp
       with_reducible rfl
      rotate_left
      ·simp only [Act.put, List.setIfInBounds_toArray, List.set_cons_zero, List.set_cons_succ, i64_w, i32_w]
       rfl
      refine pure_ (i := 8) (N := some 21) (v := ?_) (a' := ?_) #[true, true, true, true, true, true, true, true, true] rfl rfl (any_of HT_.out (by kernel_rfl)) (fun _ _ _ h => h) (Or.inl ⟨by rfl, ?_⟩) ?_ ?_
      rotate_left
      ·intro w'
       go_simp
       with_reducible rfl
      rotate_left
      ·simp only [Act.put, List.setIfInBounds_toArray, List.set_cons_zero, List.set_cons_succ, i64_w, i32_w]
       rfl
      refine done_ (done_of HT_.out (by kernel_rfl)) ?_
      go_upto_region 11 with (fail)
      go_cut [39] (fun v39 wc => ∃ (kq : Nat) (x39_31 : Bool), v39 = .bool x39_31 ∧ Aside0 (pdu_AnswerParse.j0 kq l1 x39_31 a0_0 a0_1 a0_2 l0_3 a0_4 a0_5 a0_6 0 = some (r1, r2, r3)) ∧ Aside0 (kq ≤ k) ∧ Aside0 (wc.heap[gb357]? = some (.cells #[.int .i64 a0_0, .int .i64 a0_1, .int .i64 a0_2, (.slice A0_3 l0_3.length c0_3), .int .i64 a0_4, .int .i64 a0_5, .int .i64 a0_6] 24 (0, 0))) ∧ Aside0 (wc.heap[gb358]? = some (.cells #[(.slice none 0 0), .int .i64 0] 30 (0, 0))) ∧ Aside0 (wc.heap[gb360]? = some (.cells #[(.slice none 0 0), .int .i64 0] 30 (0, 0))) ∧ Aside0 (Below w.heap.size w wc))
      case first =>
       have H := HC32.out
       clear HC32
       by_cases c34 : a0_0 = 1
       ·rw [if_pos c34] at H
        have c34b0 : (a0_0 == 1) = true := beq_iff_eq.mpr c34
        have c34b1 : (a0_0 != 1) = false := bne_eq_false_iff_eq.mpr c34
        clear c34
        (first | rw [c34b0] | (simp only [i64_w, i32_w]; rw [c34b0]) | skip)
        have H' := Aside0.mk H
        clear H
        have hnb35 := NB357_358.out
        have hnc35 := NB358_357.out
        have hnb36 := NB357_360.out
        have hnc36 := NB360_357.out
        refine cz7_ BK357.out ?_; intro hcz37_0 hcz37_1 hcz37_2 hcz37_3 hcz37_4 hcz37_5 hcz37_6 hfz37_0 hfz37_1 hfz37_2 hfz37_3 hfz37_4 hfz37_5 hfz37_6
        go_wp2
        go_meet
        case rel => exact ⟨_, (true), (by first | rfl | (simp; done) | (simp [*]; done)), H', ⟨by first | omega | exact Nat.le_refl _⟩, ⟨bk_ BK357⟩, ⟨bk_ BK358⟩, ⟨bk_ BK360⟩, ⟨bl3_ HB GE357 GE358 GE360⟩⟩
       ·rw [if_neg c34] at H
        have c34b0 : (a0_0 == 1) = false := beq_eq_false_iff_ne.mpr c34
        have c34b1 : (a0_0 != 1) = true := bne_iff_ne.mpr c34
        (first | rw [c34b0] | (simp only [i64_w, i32_w]; rw [c34b0]) | skip)
        have H' := Aside0.mk H
        clear H
        have hnb38 := NB357_358.out
        have hnc38 := NB358_357.out
        have hnb39 := NB357_360.out
        have hnc39 := NB360_357.out
        refine cz7_ BK357.out ?_; intro hcz40_0 hcz40_1 hcz40_2 hcz40_3 hcz40_4 hcz40_5 hcz40_6 hfz40_0 hfz40_1 hfz40_2 hfz40_3 hfz40_4 hfz40_5 hfz40_6
        go_wp2
        go_meet
        case rel => exact ⟨_, ((a0_0 == 2)), (by first | rfl | (simp; done) | (simp [*]; done)), H', ⟨by first | omega | exact Nat.le_refl _⟩, ⟨bk_ BK357⟩, ⟨bk_ BK358⟩, ⟨bk_ BK360⟩, ⟨bl3_ HB GE357 GE358 GE360⟩⟩
      case rest =>
       clear HC32
       try clear c1
       try clear c2
       try clear p2
       try clear c3
       try clear p3
       try clear q3
       try clear hx3
       try clear qi3
       try clear c4
       try clear c4b0
       try clear c4b1
       try clear p6
       try clear c8
       try clear c12
       try clear c12b0
       try clear c12b1
       try clear c13
       try clear c14
       try clear c16
       try clear c18
       try clear c18b0
       try clear c18b1
       try clear c19
       try clear c19b0
       try clear c19b1
       try clear c20
       try clear c20b0
       try clear c20b1
       try clear c21
       try clear c21b0
       try clear c21b1
       try clear c23
       try clear c24
       try clear c26
       try clear c29
       try clear c30
       try clear c34
       try clear c34b0
       try clear c34b1
       try clear c35
       try clear c36
       try clear p36
       try clear q36
       try clear hx36
       try clear qi36
       try clear c38
       try clear c39
       try clear hcz15_0 hcz15_1
       try clear hcz17_0 hcz17_1
       try clear hcz25_0 hcz25_1
       try clear hcz27_0 hcz27_1
       try clear hcz31_0 hcz31_1
       try clear hcz37_0 hcz37_1 hcz37_2 hcz37_3 hcz37_4 hcz37_5 hcz37_6
       try clear hcz40_0 hcz40_1 hcz40_2 hcz40_3 hcz40_4 hcz40_5 hcz40_6
       try clear hcz9_0 hcz9_1 hcz9_2 hcz9_3 hcz9_4 hcz9_5 hcz9_6
       try clear hfz15_0 hfz15_1
       try clear hfz17_0 hfz17_1
       try clear hfz25_0 hfz25_1
       try clear hfz27_0 hfz27_1
       try clear hfz31_0 hfz31_1
       try clear hfz37_0 hfz37_1 hfz37_2 hfz37_3 hfz37_4 hfz37_5 hfz37_6
       try clear hfz40_0 hfz40_1 hfz40_2 hfz40_3 hfz40_4 hfz40_5 hfz40_6
       try clear hfz9_0 hfz9_1 hfz9_2 hfz9_3 hfz9_4 hfz9_5 hfz9_6
       try clear hx361_0
       try clear hx362_0
       try clear p361
       try clear p362
       try clear q361
       try clear q362
       obtain ⟨kq, x39_31, rfl, HA, HJ31, BK357, BK358, BK360, HB⟩ := hcut
       cases kq with
       | zero => exact absurd HA.out (by simp [pdu_AnswerParse.j0])
       | succ kj31 =>
        have H := HA.out
        clear HA
        simp only [pdu_AnswerParse.j0] at H
        by_cases c41 : x39_31 = true
        ·subst c41
         have H1 : (if 2 ≤ (l1.length : Int) then ((wire_Unpack.f kj31 (l1.drop 2) a0_2).bind fun bt364 => (pdu_AnswerParse.j1 kj31 l1 a0_0 a0_1 a0_2 l0_3 a0_4 a0_5 a0_6 bt364.1 0)) else (none)) = some (r1, r2, r3) := by rw [if_pos rfl] at H; exact H
         clear H
         have H := H1
         clear H1
         by_cases c42 : 2 ≤ (l1.length : Int)
         ·rw [if_pos c42] at H
          have c42b0 := eq_true c42
          have c42b1 : decide (2 ≤ (l1.length : Int)) = true := decide_eq_true c42
          clear c42
          replace H := Option.bind_eq_some_iff.mp H
          obtain ⟨⟨t364, t365⟩, A430, H⟩ := H
          replace H : (pdu_AnswerParse.j1 kj31 l1 a0_0 a0_1 a0_2 l0_3 a0_4 a0_5 a0_6 t364 0) = some (r1, r2, r3) := H
          have A43 := Aside0.mk A430
          clear A430
          have H' := Aside0.mk H
          clear H
          try go_wp2
          have n0_ := Aside0.mk (blk_drew BK357.out)
          have n1_ := Aside0.mk (blk_drew BK358.out)
          have n2_ := Aside0.mk (blk_drew BK360.out)
          have n3_ := Aside0.mk (below_drew1 HB.out)
          clear BK357
          clear BK358
          clear BK360
          clear HB
          have BK357 := n0_
          have BK358 := n1_
          have BK360 := n2_
          have HB := n3_
          clear n0_ n1_ n2_ n3_
          obtain ⟨i045, hi045, _, hsz45, _⟩ := info_parts info5
          obtain ⟨A45, hcut45, hA45, hC45⟩ := print_drop_of (P := Try.prog) (Value.int .u8) 0 58 5 .i64 Try.underlying58 hi045 hsz45 (some ad361) c1 l1 2 (by omega) (of_decide_eq_true (by first | (with_reducible assumption) | assumption)) HC1.out
          have HR363 := Aside0.mk (Kd.C_of_reads (h1 := fun _ => rfl) (hA45 _ (Kd.reads_of_C HR1.out)))
          have HC363 := Aside0.mk hC45
          clear hA45 hC45 hi045 hsz45
          refine start_ (n := 10) (S := fun w' => w'.cell? ⟨gb357, 0, none⟩ = some (.int .i64 a0_0) ∧ w'.cell? ⟨gb357, 1, none⟩ = some (.int .i64 a0_1) ∧ w'.cell? ⟨gb357, 2, none⟩ = some (.int .i64 a0_2) ∧ w'.cell? ⟨gb357, 3, none⟩ = some (.slice A0_3 l0_3.length c0_3) ∧ w'.cell? ⟨gb357, 4, none⟩ = some (.int .i64 a0_4) ∧ w'.cell? ⟨gb357, 5, none⟩ = some (.int .i64 a0_5) ∧ w'.cell? ⟨gb357, 6, none⟩ = some (.int .i64 a0_6)) (ds := []) #[false, false, false, false, false, false, false, false, false, false] (by kernel_rfl) rfl rfl ⟨(blk_cell BK357.out 0).trans rfl, (blk_cell BK357.out 1).trans rfl, (blk_cell BK357.out 2).trans rfl, (blk_cell BK357.out 3).trans rfl, (blk_cell BK357.out 4).trans rfl, (blk_cell BK357.out 5).trans rfl, (blk_cell BK357.out 6).trans rfl⟩ (fun hHeld => ?_); refine with_tabW pdu_AnswerParse.tab12 pdu_AnswerParse.bits12 (fun HT_ HW_ => ?_)
          generalize wc.drew = w44 at BK357 BK358 BK360 HB HR363 hHeld ⊢
          refine pure_ (i := 0) (N := some 49) (v := ?_) (a' := ?_) #[true, false, false, false, false, false, false, false, false, false] rfl rfl (any_of HT_.out (by kernel_rfl)) (fun _ _ _ h => h) (Or.inl ⟨by rfl, ?_⟩) ?_ ?_
          rotate_left
          ·intro w'
           go_simp
           with_reducible rfl
          rotate_left
          ·simp only [Act.put, List.setIfInBounds_toArray, List.set_cons_zero, List.set_cons_succ, i64_w, i32_w]
           rfl
          refine pure_ (i := 1) (N := some 50) (v := ?_) (a' := ?_) #[true, true, false, false, false, false, false, false, false, false] rfl rfl (any_of HT_.out (by kernel_rfl)) (fun _ _ _ h => h) (Or.inl ⟨by rfl, ?_⟩) ?_ ?_
          rotate_left
          ·intro w'
           go_simp
           with_reducible rfl
          rotate_left
          ·simp only [Act.put, List.setIfInBounds_toArray, List.set_cons_zero, List.set_cons_succ, i64_w, i32_w]
           rfl
          refine pure_ (i := 2) (N := some 51) (v := ?_) (a' := ?_) #[true, true, true, false, false, false, false, false, false, false] rfl rfl (any_of HT_.out (by kernel_rfl)) (fun _ _ _ h => h) (Or.inl ⟨by rfl, ?_⟩) ?_ ?_
          rotate_left
          ·intro w'
           go_simp
           with_reducible rfl
          rotate_left
          ·simp only [Act.put, List.setIfInBounds_toArray, List.set_cons_zero, List.set_cons_succ, i64_w, i32_w]
           rfl
          refine take_ (i := 3) (N := some 52) (v := ?_) (a' := ?_) #[true, true, true, true, false, false, false, false, false, false] rfl rfl (take_ofW HT_.out HW_.out (by kernel_rfl)) (fun _ _ _ h => h) (Or.inl ⟨by rfl, ?_⟩) hHeld ?_ ?_
          rotate_left
          ·rintro w' ⟨s0, s1, s2, s3, s4, s5, s6⟩
           go_simp
           with_reducible rfl
          rotate_left
          ·simp only [Act.put, List.setIfInBounds_toArray, List.set_cons_zero, List.set_cons_succ, i64_w, i32_w]
           rfl
          refine one_ (i := 4) (N := some 53) #[true, true, true, true, true, false, false, false, false, false] rfl rfl (one_of HT_.out (by kernel_rfl)) (by decide) (fun K hK => ?_)
          refine goes_ Try.func60 (by kernel_rfl) rfl #[.slice A45 (l1.drop 2).length (c1 - 2), .int .i64 a0_2] (by rfl) rfl rfl (by (try simp only [List.map_toArray, List.map_cons, List.map_nil]); first | done | (rw [show (l1.drop 2).length = (l1.length - 2) from List.length_drop] <;> rfl) | rfl | (simp only [List.length_drop, List.length_take]; rfl)) ?_
          with_reducible refine (wire_Unpack.calls kj31 _ _ (l1.drop 2) a0_2 t364 t365 _ ?side1 ?side2 A43.out).mono ?_
          (case side1 => exact sc_ (Kd.C_below HR363.out HB.out))
          (case side2 => exact HC363.out)
          rintro e w46 ⟨v366, rfl, ho0, hb⟩
          refine ⟨_, rfl, ?_⟩
          have n0_ := Aside0.mk (Kd.R_lower ho0 (below_size (bl3_ HB GE357 GE358 GE360)))
          have n1_ := Aside0.mk (blk_below (g := gb357) (bk_ BK357) hb)
          have n2_ := Aside0.mk (blk_below (g := gb358) (bk_ BK358) hb)
          have n3_ := Aside0.mk (blk_below (g := gb360) (bk_ BK360) hb)
          have n4_ := Aside0.mk (below_step (bl3_ HB GE357 GE358 GE360) hb)
          clear BK357
          clear BK358
          clear BK360
          clear HB
          have HO367 := n0_
          have BK357 := n1_
          have BK358 := n2_
          have BK360 := n3_
          have HB := n4_
          clear n0_ n1_ n2_ n3_ n4_
          (try clear hb)
          (try clear hb2)
          (try clear hk)
          (try clear hi)
          (try clear ho0)
          obtain ⟨Ao47, co47, eo47⟩ := Kd.R_slice HO367.out
          (first | subst eo47 | (injection eo47 with f1_ f2_ f3_; have f4_ := f1_.symm; have f5_ := f3_.symm; clear f1_ f2_ f3_; subst f4_; subst f5_))
          refine hK.out _ _ ⟨(blk_cell BK357.out 0).trans rfl, (blk_cell BK357.out 1).trans rfl, (blk_cell BK357.out 2).trans rfl, (blk_cell BK357.out 3).trans rfl, (blk_cell BK357.out 4).trans rfl, (blk_cell BK357.out 5).trans rfl, (blk_cell BK357.out 6).trans rfl⟩ (fun hHeld => ?_)
          clear hK K
          refine norm_ (a' := ?_) ?_ ?_
          rotate_left
          ·show Act.put _ (some 53) _ = _
           simp only [Act.put, List.setIfInBounds_toArray, List.set_cons_zero, List.set_cons_succ, i64_w, i32_w]
           rfl
          refine pure_ (i := 5) (N := some 48) (v := ?_) (a' := ?_) #[true, true, true, true, true, true, false, false, false, false] rfl rfl (any_of HT_.out (by kernel_rfl)) (fun _ _ _ h => h) (Or.inl ⟨by rfl, ?_⟩) ?_ ?_
          rotate_left
          ·intro w'
           go_simp
           with_reducible rfl
          rotate_left
          ·simp only [Act.put, List.setIfInBounds_toArray, List.set_cons_zero, List.set_cons_succ, i64_w, i32_w]
           rfl
          refine pure_ (i := 6) (N := some 54) (v := ?_) (a' := ?_) #[true, true, true, true, true, true, true, false, false, false] rfl rfl (any_of HT_.out (by kernel_rfl)) (fun _ _ _ h => h) (Or.inl ⟨by rfl, ?_⟩) ?_ ?_
          rotate_left
          ·intro w'
           go_simp
           with_reducible rfl
          rotate_left
          ·simp only [Act.put, List.setIfInBounds_toArray, List.set_cons_zero, List.set_cons_succ, i64_w, i32_w]
           rfl
          refine pure_ (i := 7) (N := some 55) (v := ?_) (a' := ?_) #[true, true, true, true, true, true, true, true, false, false] rfl rfl (any_of HT_.out (by kernel_rfl)) (fun _ _ _ h => h) (Or.inl ⟨by rfl, ?_⟩) ?_ ?_
          rotate_left
          ·intro w'
           go_simp
           with_reducible rfl
          rotate_left
          ·simp only [Act.put, List.setIfInBounds_toArray, List.set_cons_zero, List.set_cons_succ, i64_w, i32_w]
           rfl
          refine pure_ (i := 8) (N := some 56) (v := ?_) (a' := ?_) #[true, true, true, true, true, true, true, true, true, false] rfl rfl (any_of HT_.out (by kernel_rfl)) (fun _ _ _ h => h) (Or.inl ⟨by rfl, ?_⟩) ?_ ?_
          rotate_left
          ·intro w'
           go_simp
           with_reducible rfl
          rotate_left
          ·simp only [Act.put, List.setIfInBounds_toArray, List.set_cons_zero, List.set_cons_succ, i64_w, i32_w]
           rfl
          refine one_ (i := 9) (N := none) #[true, true, true, true, true, true, true, true, true, true] rfl rfl (one_of HT_.out (by kernel_rfl)) (by decide) (fun K hK => ?_)
          have hs48 : w46.cell? ⟨gb360, 0, none⟩ = some (.slice none 0 0) := (blk_cell BK360.out 0).trans rfl
          have hfs48 := blk_frozen BK360.out 0
          have hns48_0 := NB357_360.out
          have hns48_1 := NB358_360.out
          have hms48_0 := NB360_357.out
          have hms48_1 := NB360_358.out
          refine skip_ (w1 := ?_) (by rfl) rfl ?_ ?_
          rotate_left
          ·go_simp
           rfl
          refine hK.out _ _ ⟨((cell_far (p := ⟨gb360, _, none⟩) NB357_360.out _).trans (hHeld.1)), ((cell_far (p := ⟨gb360, _, none⟩) NB357_360.out _).trans (hHeld.2.1)), ((cell_far (p := ⟨gb360, _, none⟩) NB357_360.out _).trans (hHeld.2.2.1)), ((cell_far (p := ⟨gb360, _, none⟩) NB357_360.out _).trans (hHeld.2.2.2.1)), ((cell_far (p := ⟨gb360, _, none⟩) NB357_360.out _).trans (hHeld.2.2.2.2.1)), ((cell_far (p := ⟨gb360, _, none⟩) NB357_360.out _).trans (hHeld.2.2.2.2.2.1)), ((cell_far (p := ⟨gb360, _, none⟩) NB357_360.out _).trans (hHeld.2.2.2.2.2.2))⟩ (fun hHeld => ?_)
          clear hK K
          refine done_ (done_of HT_.out (by kernel_rfl)) ?_
          try go_wp2
          go_meet
          case rel => exact ⟨_, (0), (t364), (0), (.slice Ao47 t364.length co47), H', ⟨by have := HJ31.out; first | omega | exact Nat.le_refl _⟩, ⟨by (with_reducible repeat (first | apply Kd.R_alloc | apply Kd.R_drewN | apply Kd.R_drew)); exact Kd.R_mono (Kd.R_far (p := ⟨gb360, 0, none⟩) (Kd.R_types HO367.out BK360.out (by decide)) (fun _ hk => hk.2) (.slice Ao47 t364.length co47)) (fun _ hk => trivial)⟩, ⟨by (with_reducible repeat (first | refine blk_drewN ?_ _ | refine blk_drew ?_ | refine blk_alloc ?_ _)); refine blk_far ?_ NB357_360.out _; (with_reducible repeat (first | refine blk_drewN ?_ _ | refine blk_drew ?_ | refine blk_alloc ?_ _)); exact BK357.out⟩, ⟨by (with_reducible repeat (first | refine blk_drewN ?_ _ | refine blk_drew ?_ | refine blk_alloc ?_ _)); refine blk_far ?_ NB358_360.out _; (with_reducible repeat (first | refine blk_drewN ?_ _ | refine blk_drew ?_ | refine blk_alloc ?_ _)); exact BK358.out⟩, ⟨by (with_reducible repeat (first | refine blk_drewN ?_ _ | refine blk_drew ?_ | refine blk_alloc ?_ _)); refine blk_put (cs := #[.slice none 0 0, .int .i64 0]) ?_ 0 _ rfl; (with_reducible repeat (first | refine blk_drewN ?_ _ | refine blk_drew ?_ | refine blk_alloc ?_ _)); exact BK360.out⟩, ⟨bl3_ HB GE357 GE358 GE360⟩⟩
         ·rw [if_neg c42] at H
          exact absurd H (by simp)
        ·replace c41 := Bool.eq_false_iff.mpr c41
         subst c41
         have H1 : (if a0_0 = 3 then (if 2 ≤ (l1.length : Int) then ((pdu_words.f kj31 (l1.drop 2)).bind fun t369 => (pdu_AnswerParse.j1 kj31 l1 a0_0 a0_1 a0_2 l0_3 a0_4 a0_5 a0_6 t369 0)) else (none)) else (if a0_0 = 4 then (if 2 ≤ (l1.length : Int) then ((pdu_words.f kj31 (l1.drop 2)).bind fun t373 => (pdu_AnswerParse.j1 kj31 l1 a0_0 a0_1 a0_2 l0_3 a0_4 a0_5 a0_6 t373 0)) else (none)) else (if a0_0 = 23 then (if 2 ≤ (l1.length : Int) then ((pdu_words.f kj31 (l1.drop 2)).bind fun t377 => (pdu_AnswerParse.j1 kj31 l1 a0_0 a0_1 a0_2 l0_3 a0_4 a0_5 a0_6 t377 0)) else (none)) else (pdu_AnswerParse.j1 kj31 l1 a0_0 a0_1 a0_2 l0_3 a0_4 a0_5 a0_6 ([] : List Int) 0)))) = some (r1, r2, r3) := by rw [if_neg (show ¬ (false = true) by decide)] at H; exact H
         clear H
         have H := H1
         clear H1
         by_cases c49 : a0_0 = 3
         ·rw [if_pos c49] at H
          have c49b0 : (a0_0 == 3) = true := beq_iff_eq.mpr c49
          have c49b1 : (a0_0 != 3) = false := bne_eq_false_iff_eq.mpr c49
          clear c49
          by_cases c50 : 2 ≤ (l1.length : Int)
          ·rw [if_pos c50] at H
           have c50b0 := eq_true c50
           have c50b1 : decide (2 ≤ (l1.length : Int)) = true := decide_eq_true c50
           clear c50
           replace H := Option.bind_eq_some_iff.mp H
           obtain ⟨t369, A510, H⟩ := H
           replace H : (pdu_AnswerParse.j1 kj31 l1 a0_0 a0_1 a0_2 l0_3 a0_4 a0_5 a0_6 t369 0) = some (r1, r2, r3) := H
           have A51 := Aside0.mk A510
           clear A510
           have H' := Aside0.mk H
           clear H
           have hnb52 := NB357_358.out
           have hnc52 := NB358_357.out
           have hnb53 := NB357_360.out
           have hnc53 := NB360_357.out
           refine cz7_ BK357.out ?_; intro hcz54_0 hcz54_1 hcz54_2 hcz54_3 hcz54_4 hcz54_5 hcz54_6 hfz54_0 hfz54_1 hfz54_2 hfz54_3 hfz54_4 hfz54_5 hfz54_6
           obtain ⟨i055, hi055, _, hsz55, _⟩ := info_parts info5
           obtain ⟨A55, hcut55, hA55, hC55⟩ := print_drop_of (P := Try.prog) (Value.int .u8) 0 58 5 .i64 Try.underlying58 hi055 hsz55 (some ad361) c1 l1 2 (by omega) (of_decide_eq_true (by first | (with_reducible assumption) | assumption)) HC1.out
           have HR368 := Aside0.mk (Kd.C_of_reads (h1 := fun _ => rfl) (hA55 _ (Kd.reads_of_C HR1.out)))
           have HC368 := Aside0.mk hC55
           clear hA55 hC55 hi055 hsz55
           go_wp2_with (first | ((with_reducible refine gate_callee (f := 59) rfl ?_); refine goesL_ (some 73) rfl rfl Try.func59 (by kernel_rfl) rfl #[.slice A55 (l1.drop 2).length (c1 - 2)] rfl (by (try simp only [List.map_toArray, List.map_cons, List.map_nil]); first | done | (rw [show (l1.drop 2).length = (l1.length - 2) from List.length_drop] <;> rfl) | rfl | (simp only [List.length_drop, List.length_take]; rfl)) ?_; (with_reducible refine (pdu_words.calls kj31 _ _ (l1.drop 2) t369 _ ?side1 ?side2 A51.out).mono ?_); (case side1 => exact sc_ (Kd.C_below HR368.out HB.out)); (case side2 => exact HC368.out); rintro e w56 ⟨v370, rfl, ho0, hb⟩; refine ⟨_, rfl, ?_⟩; have n0_ := Aside0.mk (Kd.R_lower ho0 (below_size (bl3_ HB GE357 GE358 GE360))); have n1_ := Aside0.mk (blk_below (g := gb357) (bk_ BK357) hb); have n2_ := Aside0.mk (blk_below (g := gb358) (bk_ BK358) hb); have n3_ := Aside0.mk (blk_below (g := gb360) (bk_ BK360) hb); have n4_ := Aside0.mk (below_step (bl3_ HB GE357 GE358 GE360) hb); clear BK357; clear BK358; clear BK360; clear HB; have HO371 := n0_; have BK357 := n1_; have BK358 := n2_; have BK360 := n3_; have HB := n4_; clear n0_ n1_ n2_ n3_ n4_; (try clear hb); (try clear hb2); (try clear hk); (try clear hi); (try clear ho0); obtain ⟨Ao57, co57, eo57⟩ := Kd.R_slice HO371.out; subst eo57; have hnb58 := NB360_358.out; have hnc58 := NB358_360.out; refine cz2_ BK360.out ?_; intro hcz59_0 hcz59_1 hfz59_0 hfz59_1))
           go_meet
           case rel => exact ⟨_, (0), (t369), (0), (.slice Ao57 t369.length co57), H', ⟨by have := HJ31.out; first | omega | exact Nat.le_refl _⟩, ⟨by (with_reducible repeat (first | apply Kd.R_alloc | apply Kd.R_drewN | apply Kd.R_drew)); exact Kd.R_mono (Kd.R_far (p := ⟨gb360, 0, none⟩) (Kd.R_types HO371.out BK360.out (by decide)) (fun _ hk => hk.2) (.slice Ao57 t369.length co57)) (fun _ hk => trivial)⟩, ⟨by (with_reducible repeat (first | refine blk_drewN ?_ _ | refine blk_drew ?_ | refine blk_alloc ?_ _)); refine blk_far ?_ NB357_360.out _; (with_reducible repeat (first | refine blk_drewN ?_ _ | refine blk_drew ?_ | refine blk_alloc ?_ _)); exact BK357.out⟩, ⟨by (with_reducible repeat (first | refine blk_drewN ?_ _ | refine blk_drew ?_ | refine blk_alloc ?_ _)); refine blk_far ?_ NB358_360.out _; (with_reducible repeat (first | refine blk_drewN ?_ _ | refine blk_drew ?_ | refine blk_alloc ?_ _)); exact BK358.out⟩, ⟨by (with_reducible repeat (first | refine blk_drewN ?_ _ | refine blk_drew ?_ | refine blk_alloc ?_ _)); refine blk_put (cs := #[.slice none 0 0, .int .i64 0]) ?_ 0 _ rfl; (with_reducible repeat (first | refine blk_drewN ?_ _ | refine blk_drew ?_ | refine blk_alloc ?_ _)); exact BK360.out⟩, ⟨bl3_ HB GE357 GE358 GE360⟩⟩
          ·rw [if_neg c50] at H
           exact absurd H (by simp)
         ·rw [if_neg c49] at H
          have c49b0 : (a0_0 == 3) = false := beq_eq_false_iff_ne.mpr c49
          have c49b1 : (a0_0 != 3) = true := bne_iff_ne.mpr c49
          by_cases c60 : a0_0 = 4
          ·rw [if_pos c60] at H
           have c60b0 : (a0_0 == 4) = true := beq_iff_eq.mpr c60
           have c60b1 : (a0_0 != 4) = false := bne_eq_false_iff_eq.mpr c60
           clear c60
           by_cases c61 : 2 ≤ (l1.length : Int)
           ·rw [if_pos c61] at H
            have c61b0 := eq_true c61
            have c61b1 : decide (2 ≤ (l1.length : Int)) = true := decide_eq_true c61
            clear c61
            replace H := Option.bind_eq_some_iff.mp H
            obtain ⟨t373, A620, H⟩ := H
            replace H : (pdu_AnswerParse.j1 kj31 l1 a0_0 a0_1 a0_2 l0_3 a0_4 a0_5 a0_6 t373 0) = some (r1, r2, r3) := H
            have A62 := Aside0.mk A620
            clear A620
            have H' := Aside0.mk H
            clear H
            have hnb63 := NB357_358.out
            have hnc63 := NB358_357.out
            have hnb64 := NB357_360.out
            have hnc64 := NB360_357.out
            refine cz7_ BK357.out ?_; intro hcz65_0 hcz65_1 hcz65_2 hcz65_3 hcz65_4 hcz65_5 hcz65_6 hfz65_0 hfz65_1 hfz65_2 hfz65_3 hfz65_4 hfz65_5 hfz65_6
            obtain ⟨i066, hi066, _, hsz66, _⟩ := info_parts info5
            obtain ⟨A66, hcut66, hA66, hC66⟩ := print_drop_of (P := Try.prog) (Value.int .u8) 0 58 5 .i64 Try.underlying58 hi066 hsz66 (some ad361) c1 l1 2 (by omega) (of_decide_eq_true (by first | (with_reducible assumption) | assumption)) HC1.out
            have HR372 := Aside0.mk (Kd.C_of_reads (h1 := fun _ => rfl) (hA66 _ (Kd.reads_of_C HR1.out)))
            have HC372 := Aside0.mk hC66
            clear hA66 hC66 hi066 hsz66
            go_wp2_with (first | ((with_reducible refine gate_callee (f := 59) rfl ?_); refine goesL_ (some 73) rfl rfl Try.func59 (by kernel_rfl) rfl #[.slice A66 (l1.drop 2).length (c1 - 2)] rfl (by (try simp only [List.map_toArray, List.map_cons, List.map_nil]); first | done | (rw [show (l1.drop 2).length = (l1.length - 2) from List.length_drop] <;> rfl) | rfl | (simp only [List.length_drop, List.length_take]; rfl)) ?_; (with_reducible refine (pdu_words.calls kj31 _ _ (l1.drop 2) t373 _ ?side1 ?side2 A62.out).mono ?_); (case side1 => exact sc_ (Kd.C_below HR372.out HB.out)); (case side2 => exact HC372.out); rintro e w67 ⟨v374, rfl, ho0, hb⟩; refine ⟨_, rfl, ?_⟩; have n0_ := Aside0.mk (Kd.R_lower ho0 (below_size (bl3_ HB GE357 GE358 GE360))); have n1_ := Aside0.mk (blk_below (g := gb357) (bk_ BK357) hb); have n2_ := Aside0.mk (blk_below (g := gb358) (bk_ BK358) hb); have n3_ := Aside0.mk (blk_below (g := gb360) (bk_ BK360) hb); have n4_ := Aside0.mk (below_step (bl3_ HB GE357 GE358 GE360) hb); clear BK357; clear BK358; clear BK360; clear HB; have HO375 := n0_; have BK357 := n1_; have BK358 := n2_; have BK360 := n3_; have HB := n4_; clear n0_ n1_ n2_ n3_ n4_; (try clear hb); (try clear hb2); (try clear hk); (try clear hi); (try clear ho0); obtain ⟨Ao68, co68, eo68⟩ := Kd.R_slice HO375.out; subst eo68; have hnb69 := NB360_358.out; have hnc69 := NB358_360.out; refine cz2_ BK360.out ?_; intro hcz70_0 hcz70_1 hfz70_0 hfz70_1))
            go_meet
            case rel => exact ⟨_, (0), (t373), (0), (.slice Ao68 t373.length co68), H', ⟨by have := HJ31.out; first | omega | exact Nat.le_refl _⟩, ⟨by (with_reducible repeat (first | apply Kd.R_alloc | apply Kd.R_drewN | apply Kd.R_drew)); exact Kd.R_mono (Kd.R_far (p := ⟨gb360, 0, none⟩) (Kd.R_types HO375.out BK360.out (by decide)) (fun _ hk => hk.2) (.slice Ao68 t373.length co68)) (fun _ hk => trivial)⟩, ⟨by (with_reducible repeat (first | refine blk_drewN ?_ _ | refine blk_drew ?_ | refine blk_alloc ?_ _)); refine blk_far ?_ NB357_360.out _; (with_reducible repeat (first | refine blk_drewN ?_ _ | refine blk_drew ?_ | refine blk_alloc ?_ _)); exact BK357.out⟩, ⟨by (with_reducible repeat (first | refine blk_drewN ?_ _ | refine blk_drew ?_ | refine blk_alloc ?_ _)); refine blk_far ?_ NB358_360.out _; (with_reducible repeat (first | refine blk_drewN ?_ _ | refine blk_drew ?_ | refine blk_alloc ?_ _)); exact BK358.out⟩, ⟨by (with_reducible repeat (first | refine blk_drewN ?_ _ | refine blk_drew ?_ | refine blk_alloc ?_ _)); refine blk_put (cs := #[.slice none 0 0, .int .i64 0]) ?_ 0 _ rfl; (with_reducible repeat (first | refine blk_drewN ?_ _ | refine blk_drew ?_ | refine blk_alloc ?_ _)); exact BK360.out⟩, ⟨bl3_ HB GE357 GE358 GE360⟩⟩
           ·rw [if_neg c61] at H
            exact absurd H (by simp)
          ·rw [if_neg c60] at H
           have c60b0 : (a0_0 == 4) = false := beq_eq_false_iff_ne.mpr c60
           have c60b1 : (a0_0 != 4) = true := bne_iff_ne.mpr c60
           by_cases c71 : a0_0 = 23
           ·rw [if_pos c71] at H
            have c71b0 : (a0_0 == 23) = true := beq_iff_eq.mpr c71
            have c71b1 : (a0_0 != 23) = false := bne_eq_false_iff_eq.mpr c71
            clear c71
            by_cases c72 : 2 ≤ (l1.length : Int)
            ·rw [if_pos c72] at H
             have c72b0 := eq_true c72
             have c72b1 : decide (2 ≤ (l1.length : Int)) = true := decide_eq_true c72
             clear c72
             replace H := Option.bind_eq_some_iff.mp H
             obtain ⟨t377, A730, H⟩ := H
             replace H : (pdu_AnswerParse.j1 kj31 l1 a0_0 a0_1 a0_2 l0_3 a0_4 a0_5 a0_6 t377 0) = some (r1, r2, r3) := H
             have A73 := Aside0.mk A730
             clear A730
             have H' := Aside0.mk H
             clear H
             have hnb74 := NB357_358.out
             have hnc74 := NB358_357.out
             have hnb75 := NB357_360.out
             have hnc75 := NB360_357.out
             refine cz7_ BK357.out ?_; intro hcz76_0 hcz76_1 hcz76_2 hcz76_3 hcz76_4 hcz76_5 hcz76_6 hfz76_0 hfz76_1 hfz76_2 hfz76_3 hfz76_4 hfz76_5 hfz76_6
             obtain ⟨i077, hi077, _, hsz77, _⟩ := info_parts info5
             obtain ⟨A77, hcut77, hA77, hC77⟩ := print_drop_of (P := Try.prog) (Value.int .u8) 0 58 5 .i64 Try.underlying58 hi077 hsz77 (some ad361) c1 l1 2 (by omega) (of_decide_eq_true (by first | (with_reducible assumption) | assumption)) HC1.out
             have HR376 := Aside0.mk (Kd.C_of_reads (h1 := fun _ => rfl) (hA77 _ (Kd.reads_of_C HR1.out)))
             have HC376 := Aside0.mk hC77
             clear hA77 hC77 hi077 hsz77
             go_wp2_with (first | ((with_reducible refine gate_callee (f := 59) rfl ?_); refine goesL_ (some 73) rfl rfl Try.func59 (by kernel_rfl) rfl #[.slice A77 (l1.drop 2).length (c1 - 2)] rfl (by (try simp only [List.map_toArray, List.map_cons, List.map_nil]); first | done | (rw [show (l1.drop 2).length = (l1.length - 2) from List.length_drop] <;> rfl) | rfl | (simp only [List.length_drop, List.length_take]; rfl)) ?_; (with_reducible refine (pdu_words.calls kj31 _ _ (l1.drop 2) t377 _ ?side1 ?side2 A73.out).mono ?_); (case side1 => exact sc_ (Kd.C_below HR376.out HB.out)); (case side2 => exact HC376.out); rintro e w78 ⟨v378, rfl, ho0, hb⟩; refine ⟨_, rfl, ?_⟩; have n0_ := Aside0.mk (Kd.R_lower ho0 (below_size (bl3_ HB GE357 GE358 GE360))); have n1_ := Aside0.mk (blk_below (g := gb357) (bk_ BK357) hb); have n2_ := Aside0.mk (blk_below (g := gb358) (bk_ BK358) hb); have n3_ := Aside0.mk (blk_below (g := gb360) (bk_ BK360) hb); have n4_ := Aside0.mk (below_step (bl3_ HB GE357 GE358 GE360) hb); clear BK357; clear BK358; clear BK360; clear HB; have HO379 := n0_; have BK357 := n1_; have BK358 := n2_; have BK360 := n3_; have HB := n4_; clear n0_ n1_ n2_ n3_ n4_; (try clear hb); (try clear hb2); (try clear hk); (try clear hi); (try clear ho0); obtain ⟨Ao79, co79, eo79⟩ := Kd.R_slice HO379.out; subst eo79; have hnb80 := NB360_358.out; have hnc80 := NB358_360.out; refine cz2_ BK360.out ?_; intro hcz81_0 hcz81_1 hfz81_0 hfz81_1))
             go_meet
             case rel => exact ⟨_, (0), (t377), (0), (.slice Ao79 t377.length co79), H', ⟨by have := HJ31.out; first | omega | exact Nat.le_refl _⟩, ⟨by (with_reducible repeat (first | apply Kd.R_alloc | apply Kd.R_drewN | apply Kd.R_drew)); exact Kd.R_mono (Kd.R_far (p := ⟨gb360, 0, none⟩) (Kd.R_types HO379.out BK360.out (by decide)) (fun _ hk => hk.2) (.slice Ao79 t377.length co79)) (fun _ hk => trivial)⟩, ⟨by (with_reducible repeat (first | refine blk_drewN ?_ _ | refine blk_drew ?_ | refine blk_alloc ?_ _)); refine blk_far ?_ NB357_360.out _; (with_reducible repeat (first | refine blk_drewN ?_ _ | refine blk_drew ?_ | refine blk_alloc ?_ _)); exact BK357.out⟩, ⟨by (with_reducible repeat (first | refine blk_drewN ?_ _ | refine blk_drew ?_ | refine blk_alloc ?_ _)); refine blk_far ?_ NB358_360.out _; (with_reducible repeat (first | refine blk_drewN ?_ _ | refine blk_drew ?_ | refine blk_alloc ?_ _)); exact BK358.out⟩, ⟨by (with_reducible repeat (first | refine blk_drewN ?_ _ | refine blk_drew ?_ | refine blk_alloc ?_ _)); refine blk_put (cs := #[.slice none 0 0, .int .i64 0]) ?_ 0 _ rfl; (with_reducible repeat (first | refine blk_drewN ?_ _ | refine blk_drew ?_ | refine blk_alloc ?_ _)); exact BK360.out⟩, ⟨bl3_ HB GE357 GE358 GE360⟩⟩
            ·rw [if_neg c72] at H
             exact absurd H (by simp)
           ·rw [if_neg c71] at H
            have c71b0 : (a0_0 == 23) = false := beq_eq_false_iff_ne.mpr c71
            have c71b1 : (a0_0 != 23) = true := bne_iff_ne.mpr c71
            have H' := Aside0.mk H
            clear H
            have hnb82 := NB357_358.out
            have hnc82 := NB358_357.out
            have hnb83 := NB357_360.out
            have hnc83 := NB360_357.out
            refine cz7_ BK357.out ?_; intro hcz84_0 hcz84_1 hcz84_2 hcz84_3 hcz84_4 hcz84_5 hcz84_6 hfz84_0 hfz84_1 hfz84_2 hfz84_3 hfz84_4 hfz84_5 hfz84_6
            go_wp2
            go_meet
            case rel => exact ⟨_, (0), (([] : List Int)), (0), (.slice none 0 0), H', ⟨by have := HJ31.out; first | omega | exact Nat.le_refl _⟩, ⟨by first | exact Kd.R_nil _ _ _ _ _ | exact Kd.N_nil _ _ _ _ _ | exact Kd.V_nil _ _ _ _ _ | exact Kd.Q_nil _ _ _ _ _ | exact Kd.S_nil _ _ _ _ _⟩, ⟨bk_ BK357⟩, ⟨bk_ BK358⟩, ⟨bk_ BK360⟩, ⟨bl3_ HB GE357 GE358 GE360⟩⟩
    ·rw [if_neg c18] at H
     exact absurd H (by simp)
  case rest =>
   clear HC5
   try clear c1
   try clear c2
   try clear p2
   try clear c3
   try clear p3
   try clear q3
   try clear hx3
   try clear qi3
   try clear c4
   try clear c4b0
   try clear c4b1
   try clear c5
   try clear c6
   try clear p6
   try clear c7
   try clear c8
   try clear c12
   try clear c12b0
   try clear c12b1
   try clear c13
   try clear c14
   try clear c16
   try clear c18
   try clear c18b0
   try clear c18b1
   try clear c19
   try clear c19b0
   try clear c19b1
   try clear c20
   try clear c20b0
   try clear c20b1
   try clear c21
   try clear c21b0
   try clear c21b1
   try clear c23
   try clear c24
   try clear c26
   try clear c29
   try clear c30
   try clear c34
   try clear c34b0
   try clear c34b1
   try clear c35
   try clear c36
   try clear p36
   try clear q36
   try clear hx36
   try clear qi36
   try clear c38
   try clear c39
   try clear c41
   try clear c42
   try clear c42b0
   try clear c42b1
   try clear c49
   try clear c49b0
   try clear c49b1
   try clear c50
   try clear c50b0
   try clear c50b1
   try clear c52
   try clear c53
   try clear c58
   try clear c59
   try clear c60
   try clear c60b0
   try clear c60b1
   try clear c61
   try clear c61b0
   try clear c61b1
   try clear c63
   try clear c64
   try clear c69
   try clear c71
   try clear c71b0
   try clear c71b1
   try clear c72
   try clear c72b0
   try clear c72b1
   try clear c74
   try clear c75
   try clear c80
   try clear c82
   try clear c83
   try clear hcz15_0 hcz15_1
   try clear hcz17_0 hcz17_1
   try clear hcz25_0 hcz25_1
   try clear hcz27_0 hcz27_1
   try clear hcz31_0 hcz31_1
   try clear hcz37_0 hcz37_1 hcz37_2 hcz37_3 hcz37_4 hcz37_5 hcz37_6
   try clear hcz40_0 hcz40_1 hcz40_2 hcz40_3 hcz40_4 hcz40_5 hcz40_6
   try clear hcz54_0 hcz54_1 hcz54_2 hcz54_3 hcz54_4 hcz54_5 hcz54_6
   try clear hcz59_0 hcz59_1
   try clear hcz65_0 hcz65_1 hcz65_2 hcz65_3 hcz65_4 hcz65_5 hcz65_6
   try clear hcz70_0 hcz70_1
   try clear hcz76_0 hcz76_1 hcz76_2 hcz76_3 hcz76_4 hcz76_5 hcz76_6
   try clear hcz81_0 hcz81_1
   try clear hcz84_0 hcz84_1 hcz84_2 hcz84_3 hcz84_4 hcz84_5 hcz84_6
   try clear hcz9_0 hcz9_1 hcz9_2 hcz9_3 hcz9_4 hcz9_5 hcz9_6
   try clear hfz15_0 hfz15_1
   try clear hfz17_0 hfz17_1
   try clear hfz25_0 hfz25_1
   try clear hfz27_0 hfz27_1
   try clear hfz31_0 hfz31_1
   try clear hfz37_0 hfz37_1 hfz37_2 hfz37_3 hfz37_4 hfz37_5 hfz37_6
   try clear hfz40_0 hfz40_1 hfz40_2 hfz40_3 hfz40_4 hfz40_5 hfz40_6
   try clear hfz54_0 hfz54_1 hfz54_2 hfz54_3 hfz54_4 hfz54_5 hfz54_6
   try clear hfz59_0 hfz59_1
   try clear hfz65_0 hfz65_1 hfz65_2 hfz65_3 hfz65_4 hfz65_5 hfz65_6
   try clear hfz70_0 hfz70_1
   try clear hfz76_0 hfz76_1 hfz76_2 hfz76_3 hfz76_4 hfz76_5 hfz76_6
   try clear hfz81_0 hfz81_1
   try clear hfz84_0 hfz84_1 hfz84_2 hfz84_3 hfz84_4 hfz84_5 hfz84_6
   try clear hfz9_0 hfz9_1 hfz9_2 hfz9_3 hfz9_4 hfz9_5 hfz9_6
   try clear hx361_0
   try clear hx362_0
   try clear p2
   try clear p3
   try clear p36
   try clear p361
   try clear p362
   try clear p6
   try clear q3
   try clear q36
   try clear q361
   try clear q362
   obtain ⟨kq, x359001_4, x361000_4, x361001_4, u361000, HA, HJ4, HO_361000, BK357, BK358, BK360, HB⟩ := hcut
   cases kq with
   | zero => exact absurd HA.out (by simp [pdu_AnswerParse.j1])
   | succ kj4 =>
    have H := HA.out
    clear HA
    simp only [pdu_AnswerParse.j1] at H
    replace H := Option.bind_eq_some_iff.mp H
    obtain ⟨⟨t380, t383⟩, A850, H⟩ := H
    replace H : (if t383 = 0 then ((bytes_Equal.f t380 l1).bind fun t384 => (if t384 = true then (some (x361000_4, x361001_4, 0)) else (some (([] : List Int), 0, 4)))) else (some (([] : List Int), 0, 4))) = some (r1, r2, r3) := H
    have A85 := Aside0.mk A850
    clear A850
    by_cases c86 : t383 = 0
    ·rw [if_pos c86] at H
     have c86b0 : (t383 == 0) = true := beq_iff_eq.mpr c86
     have c86b1 : (t383 != 0) = false := bne_eq_false_iff_eq.mpr c86
     clear c86
     replace H := Option.bind_eq_some_iff.mp H
     obtain ⟨t384, A870, H⟩ := H
     replace H : (if t384 = true then (some (x361000_4, x361001_4, 0)) else (some (([] : List Int), 0, 4))) = some (r1, r2, r3) := H
     have A87 := Aside0.mk A870
     clear A870
     by_cases c88 : t384 = true
     ·subst c88
      have H1 : (some (x361000_4, x361001_4, 0)) = some (r1, r2, r3) := by rw [if_pos rfl] at H; exact H
      clear H
      have H := H1
      clear H1
      simp only [Option.some.injEq, Prod.mk.injEq] at H
      obtain ⟨rfl, rfl, rfl⟩ := H
      have hnb89 := NB357_358.out
      have hnc89 := NB358_357.out
      have hnb90 := NB357_360.out
      have hnc90 := NB360_357.out
      refine cz7_ BK357.out ?_; intro hcz91_0 hcz91_1 hcz91_2 hcz91_3 hcz91_4 hcz91_5 hcz91_6 hfz91_0 hfz91_1 hfz91_2 hfz91_3 hfz91_4 hfz91_5 hfz91_6
      have hnb92 := NB360_358.out
      have hnc92 := NB358_360.out
      refine cz2_ BK360.out ?_; intro hcz93_0 hcz93_1 hfz93_0 hfz93_1
      obtain ⟨Ao94, co94, eo94⟩ := Kd.R_slice HO_361000.out
      subst eo94
      go_wp2_with (first | ((with_reducible refine gate_callee (f := 36) rfl ?_); refine goesL_ (some 78) rfl rfl Try.func36 (by kernel_rfl) rfl #[.agg #[.int .i64 a0_0, .int .i64 a0_1, .int .i64 a0_2, .slice A0_3 l0_3.length c0_3, .int .i64 a0_4, .int .i64 a0_5, .int .i64 a0_6], .agg #[.slice Ao94 x361000_4.length co94, .int .i64 x361001_4]] rfl ar_ ?_; (with_reducible refine (pdu_AnswerBytes.calls kj4 a0_0 a0_1 a0_2 _ _ l0_3 a0_4 a0_5 a0_6 _ _ x361000_4 x361001_4 t380 t383 _ ?side1 ?side2 ?side3 ?side4 A85.out).mono ?_); (case side1 => exact sc_ (Kd.C_below HR0_3.out HB.out)); (case side2 => exact HC0_3.out); (case side3 => exact sc_ (Kd.R_reads' HO_361000.out).2.2); (case side4 => exact (Kd.R_reads' HO_361000.out).2.1); rintro e w95 ⟨v381, rfl, ho0, hb⟩; refine ⟨_, rfl, ?_⟩; have n0_ := Aside0.mk (Kd.R_below (kr_ HO_361000) hb); have n1_ := Aside0.mk (Kd.R_lower ho0 (below_size (bl3_ HB GE357 GE358 GE360))); have n2_ := Aside0.mk (blk_below (g := gb357) (bk_ BK357) hb); have n3_ := Aside0.mk (blk_below (g := gb358) (bk_ BK358) hb); have n4_ := Aside0.mk (blk_below (g := gb360) (bk_ BK360) hb); have n5_ := Aside0.mk (below_step (bl3_ HB GE357 GE358 GE360) hb); clear HO_361000; clear BK357; clear BK358; clear BK360; clear HB; have HO_361000 := n0_; have HO382 := n1_; have BK357 := n2_; have BK358 := n3_; have BK360 := n4_; have HB := n5_; clear n0_ n1_ n2_ n3_ n4_ n5_; (try clear hb); (try clear hb2); (try clear hk); (try clear hi); (try clear ho0); obtain ⟨Ao96, co96, eo96⟩ := Kd.R_slice HO382.out; subst eo96) | (go_at_call 62; (with_reducible refine (bytes_Equal.calls _ _ t380 _ _ l1 true _ ?side1 ?side2 ?side3 ?side4 A87.out).mono ?_); (case side1 => exact sc_ (Kd.R_reads' HO382.out).2.2); (case side2 => exact (Kd.R_reads' HO382.out).2.1); (case side3 => exact sc_ (Kd.C_below HR1.out HB.out)); (case side4 => exact HC1.out); rintro e w' ⟨rfl, ⟨nd, rfl⟩⟩; (try (rw [drewN_self w95]; generalize hq_ : World.drewN w95 _ = w95; have n0_ : Aside0 (Kd.R (Kd.int .u8) 5 w95 w.heap.size (fun _ => True) (.slice Ao96 t380.length co96) t380) := ⟨by rw [← hq_]; exact (kr_ HO382)⟩; have n1_ : Aside0 (Kd.R (Kd.int .i64) 3 w95 w.heap.size (fun _ => True) (.slice Ao94 x361000_4.length co94) x361000_4) := ⟨by rw [← hq_]; exact (kr_ HO_361000)⟩; have n2_ : Aside0 (w95.heap[gb357]? = some (.cells #[.int .i64 a0_0, .int .i64 a0_1, .int .i64 a0_2, .slice A0_3 l0_3.length c0_3, .int .i64 a0_4, .int .i64 a0_5, .int .i64 a0_6] 24 (0, 0))) := ⟨by rw [← hq_]; exact (bk_ BK357)⟩; have n3_ : Aside0 (w95.heap[gb358]? = some (.cells #[.slice none 0 0, .int .i64 x359001_4] 30 (0, 0))) := ⟨by rw [← hq_]; exact (bk_ BK358)⟩; have n4_ : Aside0 (w95.heap[gb360]? = some (.cells #[.slice Ao94 x361000_4.length co94, .int .i64 x361001_4] 30 (0, 0))) := ⟨by rw [← hq_]; exact (bk_ BK360)⟩; have n5_ : Aside0 (Below w.heap.size w w95) := ⟨by rw [← hq_]; exact (bl3_ HB GE357 GE358 GE360)⟩; clear HO382 HO_361000 BK357 BK358 BK360 HB hq_; have HO382 := n0_; have HO_361000 := n1_; have BK357 := n2_; have BK358 := n3_; have BK360 := n4_; have HB := n5_; clear n0_ n1_ n2_ n3_ n4_ n5_)); refine cz2_ BK360.out ?_; intro hcz97_0 hcz97_1 hfz97_0 hfz97_1; refine cz2_ BK358.out ?_; intro hcz98_0 hcz98_1 hfz98_0 hfz98_1))
      refine bodyPost_ret (results_ct rfl _ _ gb358 30 #[.slice Ao94 x361000_4.length co94, .int .i64 x361001_4] (0, 0) _ rfl (by (with_reducible repeat (first | refine blk_drewN ?_ _ | refine blk_drew ?_ | refine blk_alloc ?_ _)); refine blk_put (cs := #[.slice Ao94 x361000_4.length co94, .int .i64 x359001_4]) ?_ 1 _ rfl; (with_reducible repeat (first | refine blk_drewN ?_ _ | refine blk_drew ?_ | refine blk_alloc ?_ _)); refine blk_put (cs := #[.slice none 0 0, .int .i64 x359001_4]) ?_ 0 _ rfl; (with_reducible repeat (first | refine blk_drewN ?_ _ | refine blk_drew ?_ | refine blk_alloc ?_ _)); exact BK358.out) Try.underlying30 rfl (by kernel_rfl)) rfl ?_
      exact ⟨_, er_, by (with_reducible repeat (first | apply Kd.R_alloc | apply Kd.R_drewN | apply Kd.R_drew)); exact Kd.R_mono (Kd.R_far (p := ⟨gb358, 1, none⟩) (Kd.R_far (p := ⟨gb358, 0, none⟩) (Kd.R_types HO_361000.out BK358.out (by decide)) (fun _ hk => hk.2) (.slice Ao94 x361000_4.length co94)) (fun _ hk => hk.2) (.int .i64 x361001_4)) (fun _ hk => trivial), bl3_ HB GE357 GE358 GE360⟩
     ·replace c88 := Bool.eq_false_iff.mpr c88
      subst c88
      have H1 : (some (([] : List Int), 0, 4)) = some (r1, r2, r3) := by rw [if_neg (show ¬ (false = true) by decide)] at H; exact H
      clear H
      have H := H1
      clear H1
      simp only [Option.some.injEq, Prod.mk.injEq] at H
      obtain ⟨rfl, rfl, rfl⟩ := H
      have hnb99 := NB357_358.out
      have hnc99 := NB358_357.out
      have hnb100 := NB357_360.out
      have hnc100 := NB360_357.out
      refine cz7_ BK357.out ?_; intro hcz101_0 hcz101_1 hcz101_2 hcz101_3 hcz101_4 hcz101_5 hcz101_6 hfz101_0 hfz101_1 hfz101_2 hfz101_3 hfz101_4 hfz101_5 hfz101_6
      have hnb102 := NB360_358.out
      have hnc102 := NB358_360.out
      refine cz2_ BK360.out ?_; intro hcz103_0 hcz103_1 hfz103_0 hfz103_1
      obtain ⟨Ao104, co104, eo104⟩ := Kd.R_slice HO_361000.out
      subst eo104
      go_wp2_with (first | ((with_reducible refine gate_callee (f := 36) rfl ?_); refine goesL_ (some 78) rfl rfl Try.func36 (by kernel_rfl) rfl #[.agg #[.int .i64 a0_0, .int .i64 a0_1, .int .i64 a0_2, .slice A0_3 l0_3.length c0_3, .int .i64 a0_4, .int .i64 a0_5, .int .i64 a0_6], .agg #[.slice Ao104 x361000_4.length co104, .int .i64 x361001_4]] rfl ar_ ?_; (with_reducible refine (pdu_AnswerBytes.calls kj4 a0_0 a0_1 a0_2 _ _ l0_3 a0_4 a0_5 a0_6 _ _ x361000_4 x361001_4 t380 t383 _ ?side1 ?side2 ?side3 ?side4 A85.out).mono ?_); (case side1 => exact sc_ (Kd.C_below HR0_3.out HB.out)); (case side2 => exact HC0_3.out); (case side3 => exact sc_ (Kd.R_reads' HO_361000.out).2.2); (case side4 => exact (Kd.R_reads' HO_361000.out).2.1); rintro e w105 ⟨v381, rfl, ho0, hb⟩; refine ⟨_, rfl, ?_⟩; have n0_ := Aside0.mk (Kd.R_below (kr_ HO_361000) hb); have n1_ := Aside0.mk (Kd.R_lower ho0 (below_size (bl3_ HB GE357 GE358 GE360))); have n2_ := Aside0.mk (blk_below (g := gb357) (bk_ BK357) hb); have n3_ := Aside0.mk (blk_below (g := gb358) (bk_ BK358) hb); have n4_ := Aside0.mk (blk_below (g := gb360) (bk_ BK360) hb); have n5_ := Aside0.mk (below_step (bl3_ HB GE357 GE358 GE360) hb); clear HO_361000; clear BK357; clear BK358; clear BK360; clear HB; have HO_361000 := n0_; have HO382 := n1_; have BK357 := n2_; have BK358 := n3_; have BK360 := n4_; have HB := n5_; clear n0_ n1_ n2_ n3_ n4_ n5_; (try clear hb); (try clear hb2); (try clear hk); (try clear hi); (try clear ho0); obtain ⟨Ao106, co106, eo106⟩ := Kd.R_slice HO382.out; subst eo106) | (go_at_call 62; (with_reducible refine (bytes_Equal.calls _ _ t380 _ _ l1 false _ ?side1 ?side2 ?side3 ?side4 A87.out).mono ?_); (case side1 => exact sc_ (Kd.R_reads' HO382.out).2.2); (case side2 => exact (Kd.R_reads' HO382.out).2.1); (case side3 => exact sc_ (Kd.C_below HR1.out HB.out)); (case side4 => exact HC1.out); rintro e w' ⟨rfl, ⟨nd, rfl⟩⟩; (try (rw [drewN_self w105]; generalize hq_ : World.drewN w105 _ = w105; have n0_ : Aside0 (Kd.R (Kd.int .u8) 5 w105 w.heap.size (fun _ => True) (.slice Ao106 t380.length co106) t380) := ⟨by rw [← hq_]; exact (kr_ HO382)⟩; have n1_ : Aside0 (Kd.R (Kd.int .i64) 3 w105 w.heap.size (fun _ => True) (.slice Ao104 x361000_4.length co104) x361000_4) := ⟨by rw [← hq_]; exact (kr_ HO_361000)⟩; have n2_ : Aside0 (w105.heap[gb357]? = some (.cells #[.int .i64 a0_0, .int .i64 a0_1, .int .i64 a0_2, .slice A0_3 l0_3.length c0_3, .int .i64 a0_4, .int .i64 a0_5, .int .i64 a0_6] 24 (0, 0))) := ⟨by rw [← hq_]; exact (bk_ BK357)⟩; have n3_ : Aside0 (w105.heap[gb358]? = some (.cells #[.slice none 0 0, .int .i64 x359001_4] 30 (0, 0))) := ⟨by rw [← hq_]; exact (bk_ BK358)⟩; have n4_ : Aside0 (w105.heap[gb360]? = some (.cells #[.slice Ao104 x361000_4.length co104, .int .i64 x361001_4] 30 (0, 0))) := ⟨by rw [← hq_]; exact (bk_ BK360)⟩; have n5_ : Aside0 (Below w.heap.size w w105) := ⟨by rw [← hq_]; exact (bl3_ HB GE357 GE358 GE360)⟩; clear HO382 HO_361000 BK357 BK358 BK360 HB hq_; have HO382 := n0_; have HO_361000 := n1_; have BK357 := n2_; have BK358 := n3_; have BK360 := n4_; have HB := n5_; clear n0_ n1_ n2_ n3_ n4_ n5_)); refine cz2_ BK358.out ?_; intro hcz107_0 hcz107_1 hfz107_0 hfz107_1))
      refine bodyPost_ret (results_ct rfl _ _ gb358 30 #[.slice none 0 0, .int .i64 0] (0, 0) _ rfl (by (with_reducible repeat (first | refine blk_drewN ?_ _ | refine blk_drew ?_ | refine blk_alloc ?_ _)); refine blk_put (cs := #[.slice none 0 0, .int .i64 x359001_4]) ?_ 1 _ rfl; (with_reducible repeat (first | refine blk_drewN ?_ _ | refine blk_drew ?_ | refine blk_alloc ?_ _)); refine blk_put (cs := #[.slice none 0 0, .int .i64 x359001_4]) ?_ 0 _ rfl; (with_reducible repeat (first | refine blk_drewN ?_ _ | refine blk_drew ?_ | refine blk_alloc ?_ _)); exact BK358.out) Try.underlying30 rfl (by kernel_rfl)) rfl ?_
      exact ⟨_, er_, by first | exact Kd.R_nil _ _ _ _ _ | exact Kd.N_nil _ _ _ _ _ | exact Kd.V_nil _ _ _ _ _ | exact Kd.Q_nil _ _ _ _ _ | exact Kd.S_nil _ _ _ _ _, bl3_ HB GE357 GE358 GE360⟩
    ·rw [if_neg c86] at H
     have c86b0 : (t383 == 0) = false := beq_eq_false_iff_ne.mpr c86
     have c86b1 : (t383 != 0) = true := bne_iff_ne.mpr c86
     simp only [Option.some.injEq, Prod.mk.injEq] at H
     obtain ⟨rfl, rfl, rfl⟩ := H
     have hnb108 := NB357_358.out
     have hnc108 := NB358_357.out
     have hnb109 := NB357_360.out
     have hnc109 := NB360_357.out
     refine cz7_ BK357.out ?_; intro hcz110_0 hcz110_1 hcz110_2 hcz110_3 hcz110_4 hcz110_5 hcz110_6 hfz110_0 hfz110_1 hfz110_2 hfz110_3 hfz110_4 hfz110_5 hfz110_6
     have hnb111 := NB360_358.out
     have hnc111 := NB358_360.out
     refine cz2_ BK360.out ?_; intro hcz112_0 hcz112_1 hfz112_0 hfz112_1
     obtain ⟨Ao113, co113, eo113⟩ := Kd.R_slice HO_361000.out
     subst eo113
     go_wp2_with (first | ((with_reducible refine gate_callee (f := 36) rfl ?_); refine goesL_ (some 78) rfl rfl Try.func36 (by kernel_rfl) rfl #[.agg #[.int .i64 a0_0, .int .i64 a0_1, .int .i64 a0_2, .slice A0_3 l0_3.length c0_3, .int .i64 a0_4, .int .i64 a0_5, .int .i64 a0_6], .agg #[.slice Ao113 x361000_4.length co113, .int .i64 x361001_4]] rfl ar_ ?_; (with_reducible refine (pdu_AnswerBytes.calls kj4 a0_0 a0_1 a0_2 _ _ l0_3 a0_4 a0_5 a0_6 _ _ x361000_4 x361001_4 t380 t383 _ ?side1 ?side2 ?side3 ?side4 A85.out).mono ?_); (case side1 => exact sc_ (Kd.C_below HR0_3.out HB.out)); (case side2 => exact HC0_3.out); (case side3 => exact sc_ (Kd.R_reads' HO_361000.out).2.2); (case side4 => exact (Kd.R_reads' HO_361000.out).2.1); rintro e w114 ⟨v381, rfl, ho0, hb⟩; refine ⟨_, rfl, ?_⟩; have n0_ := Aside0.mk (Kd.R_below (kr_ HO_361000) hb); have n1_ := Aside0.mk (Kd.R_lower ho0 (below_size (bl3_ HB GE357 GE358 GE360))); have n2_ := Aside0.mk (blk_below (g := gb357) (bk_ BK357) hb); have n3_ := Aside0.mk (blk_below (g := gb358) (bk_ BK358) hb); have n4_ := Aside0.mk (blk_below (g := gb360) (bk_ BK360) hb); have n5_ := Aside0.mk (below_step (bl3_ HB GE357 GE358 GE360) hb); clear HO_361000; clear BK357; clear BK358; clear BK360; clear HB; have HO_361000 := n0_; have HO382 := n1_; have BK357 := n2_; have BK358 := n3_; have BK360 := n4_; have HB := n5_; clear n0_ n1_ n2_ n3_ n4_ n5_; (try clear hb); (try clear hb2); (try clear hk); (try clear hi); (try clear ho0); refine cz2_ BK358.out ?_; intro hcz115_0 hcz115_1 hfz115_0 hfz115_1))
     refine bodyPost_ret (results_ct rfl _ _ gb358 30 #[.slice none 0 0, .int .i64 0] (0, 0) _ rfl (by (with_reducible repeat (first | refine blk_drewN ?_ _ | refine blk_drew ?_ | refine blk_alloc ?_ _)); refine blk_put (cs := #[.slice none 0 0, .int .i64 x359001_4]) ?_ 1 _ rfl; (with_reducible repeat (first | refine blk_drewN ?_ _ | refine blk_drew ?_ | refine blk_alloc ?_ _)); refine blk_put (cs := #[.slice none 0 0, .int .i64 x359001_4]) ?_ 0 _ rfl; (with_reducible repeat (first | refine blk_drewN ?_ _ | refine blk_drew ?_ | refine blk_alloc ?_ _)); exact BK358.out) Try.underlying30 rfl (by kernel_rfl)) rfl ?_
     exact ⟨_, er_, by first | exact Kd.R_nil _ _ _ _ _ | exact Kd.N_nil _ _ _ _ _ | exact Kd.V_nil _ _ _ _ _ | exact Kd.Q_nil _ _ _ _ _ | exact Kd.S_nil _ _ _ _ _, bl3_ HB GE357 GE358 GE360⟩
 ·rw [if_neg c4] at H
  have c4b0 : (t359 == 0) = false := beq_eq_false_iff_ne.mpr c4
  have c4b1 : (t359 != 0) = true := bne_iff_ne.mpr c4
  simp only [Option.some.injEq, Prod.mk.injEq] at H
  obtain ⟨rfl, rfl, rfl⟩ := H
  go_enter Try.func39, Try.ntmps39
  go_wp2_with (first | ((with_reducible refine gate_dst (N := 2) rfl ?_); refine bx_ (N := 2) (cs := #[.int .i64 a0_0, .int .i64 a0_1, .int .i64 a0_2, .slice A0_3 l0_3.length c0_3, .int .i64 a0_4, .int .i64 a0_5, .int .i64 a0_6]) (t := 24) ?_; intro gb357 hg w116 hbox hb; have n0_ := Aside0.mk (below_step (bl0_ HB) hb); have n1_ := Aside0.mk (hbox); have n2_ := Aside0.mk ((by rw [hg]; exact (below_size (bl0_ HB)) : w.heap.size ≤ gb357)); have n3_ := Aside0.mk ((by rw [hg]; exact (below_size (bl0_ HB)) : w.heap.size ≤ gb357)); clear HB; have HB := n0_; have BK357 := n1_; have GW357 := n2_; have GE357 := n3_; clear n0_ n1_ n2_ n3_; clear hb hbox hg) | ((with_reducible refine gate_dst (N := 4) rfl ?_); refine bx_ (N := 4) (cs := #[.slice none 0 0, .int .i64 0]) (t := 30) ?_; intro gb358 hg w117 hbox hb; have n0_ := Aside0.mk (blk_below (g := gb357) (bk_ BK357) hb); have n1_ := Aside0.mk (below_step (bl1_ HB GE357) hb); have n2_ := Aside0.mk (hbox); have n3_ := Aside0.mk ((by rw [hg]; exact (below_size (bl1_ HB GE357)) : w.heap.size ≤ gb358)); have n4_ := Aside0.mk ((by rw [hg]; exact (below_size (bl1_ HB GE357)) : w.heap.size ≤ gb358)); have n5_ := Aside0.mk ((by rw [hg]; exact Nat.ne_of_lt (blk_lt (g := gb357) (bk_ BK357)) : gb357 ≠ gb358)); have n6_ := Aside0.mk ((by rw [hg]; exact Nat.ne_of_gt (blk_lt (g := gb357) (bk_ BK357)) : gb358 ≠ gb357)); clear BK357; clear HB; have BK357 := n0_; have HB := n1_; have BK358 := n2_; have GW358 := n3_; have GE358 := n4_; have NB357_358 := n5_; have NB358_357 := n6_; clear n0_ n1_ n2_ n3_ n4_ n5_ n6_; clear hb hbox hg; have hnb118 := NB357_358.out; have hnc118 := NB358_357.out; refine cz7_ BK357.out ?_; intro hcz119_0 hcz119_1 hcz119_2 hcz119_3 hcz119_4 hcz119_5 hcz119_6 hfz119_0 hfz119_1 hfz119_2 hfz119_3 hfz119_4 hfz119_5 hfz119_6) | ((with_reducible refine gate_callee (f := 29) rfl ?_); refine goesL_ (some 11) rfl rfl Try.func29 (by kernel_rfl) rfl #[.agg #[.int .i64 a0_0, .int .i64 a0_1, .int .i64 a0_2, .slice A0_3 l0_3.length c0_3, .int .i64 a0_4, .int .i64 a0_5, .int .i64 a0_6]] rfl ar_ ?_; (with_reducible refine (pdu_Check.calls k a0_0 a0_1 a0_2 _ _ l0_3 a0_4 a0_5 a0_6 t359 _ ?side1 ?side2 A3.out).mono ?_); (case side1 => exact sc_ (Kd.C_below HR0_3.out HB.out)); (case side2 => exact HC0_3.out); rintro e w120 ⟨rfl, hb⟩; refine ⟨_, rfl, ?_⟩; have n0_ := Aside0.mk (blk_below (g := gb357) (bk_ BK357) hb); have n1_ := Aside0.mk (blk_below (g := gb358) (bk_ BK358) hb); have n2_ := Aside0.mk (below_step (bl2_ HB GE357 GE358) hb); clear BK357; clear BK358; clear HB; have BK357 := n0_; have BK358 := n1_; have HB := n2_; clear n0_ n1_ n2_; (try clear hb); (try clear hb2); (try clear hk); (try clear hi); refine cz2_ BK358.out ?_; intro hcz121_0 hcz121_1 hfz121_0 hfz121_1))
  refine bodyPost_ret (results_ct rfl _ _ gb358 30 #[.slice none 0 0, .int .i64 0] (0, 0) _ rfl (by (with_reducible repeat (first | refine blk_drewN ?_ _ | refine blk_drew ?_ | refine blk_alloc ?_ _)); refine blk_put (cs := #[.slice none 0 0, .int .i64 0]) ?_ 1 _ rfl; (with_reducible repeat (first | refine blk_drewN ?_ _ | refine blk_drew ?_ | refine blk_alloc ?_ _)); refine blk_put (cs := #[.slice none 0 0, .int .i64 0]) ?_ 0 _ rfl; (with_reducible repeat (first | refine blk_drewN ?_ _ | refine blk_drew ?_ | refine blk_alloc ?_ _)); exact BK358.out) Try.underlying30 rfl (by kernel_rfl)) rfl ?_
  exact ⟨_, er_, by first | exact Kd.R_nil _ _ _ _ _ | exact Kd.N_nil _ _ _ _ _ | exact Kd.V_nil _ _ _ _ _ | exact Kd.Q_nil _ _ _ _ _ | exact Kd.S_nil _ _ _ _ _, bl2_ HB GE357 GE358⟩
end Go.Proofs.Ytocicifgglkaeaa.PR
end

section
namespace Go.Proofs.Ytocicifgglkaeaa.Mth
open Go.RowKit Go.Proofs.YtocicifgglkaeaaW.PrintWords Go.Proofs.YtocicifgglkaeaaW.PrintLast Go.Proofs.YtocicifgglkaeaaW.PrintMore Go.Proofs.Ytocicifgglkaeaa.Ext Go.Proofs.Ytocicifgglkaeaa.ExtF Go.Proofs.Ytocicifgglkaeaa.PP Go.Proofs.Ytocicifgglkaeaa.PQ Go.Proofs.Ytocicifgglkaeaa.ExtM Go.Proofs.Ytocicifgglkaeaa.MathP Go.Proofs.Ytocicifgglkaeaa.PR
set_option linter.unusedVariables false
set_option linter.unusedSimpArgs false
theorem join_bytes (x y : Int) (hx : 0 ≤ x ∧ x < 256) (hy : 0 ≤ y ∧ y < 256) : Go.bits .or .i64 (wrap64 ((wrap64 x) * 256)) (wrap64 y) = 256 * x + y := by
 rw [wrap64_id x (by omega) (by omega), wrap64_id y (by omega) (by omega), wrap64_id (x * 256) (by omega) (by omega)]
 obtain ⟨m, rfl⟩ := Int.eq_ofNat_of_zero_le hx.1
 obtain ⟨n, rfl⟩ := Int.eq_ofNat_of_zero_le hy.1
 exact (show ∀ m n : Fin 256, Go.bits .or .i64 ((m.1 : Int) * 256) (n.1 : Int) = 256 * (m.1 : Int) + (n.1 : Int) by decide +kernel) ⟨m, by omega⟩ ⟨n, by omega⟩
theorem bytes_drop {l : List Int} (hb : Bytes l) (n : Nat) : Bytes (l.drop n) := fun x hx => hb x (List.mem_of_mem_drop hx)
theorem at_f (l : List Int) (hb : Bytes l) (hl : l.length ≤ 1000000000) (i : Nat) (h : i + 1 < l.length) : wire_At.f l (i : Int) = some (256 * rd l (i : Int) + rd l ((i + 1 : Nat) : Int), 0) := by
 unfold wire_At.f
 have hw : wrap64 ((i : Int) + 1) = ((i + 1 : Nat) : Int) := by rw [wrap64_id _ (by omega) (by omega)]; omega
 rw [if_neg (by omega), wrap64_id ((l.length : Int) - 2) (by omega) (by omega), if_neg (by omega), if_pos (by omega), if_pos (by omega), hw, if_pos (by omega), if_pos (by omega), join_bytes _ _ (bytes_rd hb _) (bytes_rd hb _)]
def wordsOf (l : List Int) : List Int := (List.range (l.length / 2)).map fun j => 256 * rd l ((2 * j : Nat) : Int) + rd l ((2 * j + 1 : Nat) : Int)
theorem wordsOf_len (l : List Int) : (wordsOf l).length = l.length / 2 := by simp [wordsOf]
theorem pwords_l0 (l : List Int) (hb : Bytes l) (hl : l.length ≤ 1000000000) : ∀ (d j k : Nat), j + d = l.length / 2 → d + 1 ≤ k →
 pdu_words.l0 k l ((List.range j).map fun j => 256 * rd l ((2 * j : Nat) : Int) + rd l ((2 * j + 1 : Nat) : Int)) ((2 * j : Nat) : Int) = some (wordsOf l)
 | 0, j, k, hj, hk => by
  obtain ⟨k, rfl⟩ := Nat.exists_eq_add_of_le' (show 1 ≤ k by omega)
  unfold pdu_words.l0
  rw [wrap64_id _ (by omega) (by omega), if_neg (by omega)]
  unfold wordsOf
  rw [← hj, Nat.add_zero]
 | d + 1, j, k, hj, hk => by
  obtain ⟨k, rfl⟩ := Nat.exists_eq_add_of_le' (show 1 ≤ k by omega)
  unfold pdu_words.l0
  have hw : wrap64 (((2 * j : Nat) : Int) + 2) = ((2 * (j + 1) : Nat) : Int) := by rw [wrap64_id _ (by omega) (by omega)]; omega
  rw [wrap64_id _ (by omega) (by omega), if_pos (by omega), at_f l hb hl (2 * j) (by omega), Option.bind_some, if_pos (by simp; omega), hw]
  have := pwords_l0 l hb hl d (j + 1) k (by omega) (by omega)
  rw [List.range_succ, List.map_append] at this
  exact this
theorem pwords_f (l : List Int) (hb : Bytes l) (hl : l.length ≤ 1000000000) (k : Nat) (hk : l.length + 1 ≤ k) : pdu_words.f k l = some (wordsOf l) := by
 unfold pdu_words.f
 exact pwords_l0 l hb hl (l.length / 2) 0 k (by omega) (by omega)
theorem rd_nat {l : List Int} (i : Nat) (h : i < l.length) : rd l (i : Int) = l[i] := by simp [rd, List.getElem?_eq_getElem h]
theorem str_one {l m : List Int} (hl : Bytes l) (hm : Bytes m) (h2 : l.map (fun n => UInt8.ofNat n.toNat) = m.map (fun n => UInt8.ofNat n.toNat)) : l = m := by
 have back : ∀ {x : List Int}, Bytes x → (x.map (fun n => UInt8.ofNat n.toNat)).map (fun b => (b.toNat : Int)) = x := by
  intro x hx
  rw [List.map_map]
  conv => rhs; rw [← List.map_id x]
  apply List.map_congr_left
  intro n hn
  have := hx n hn
  simp only [Function.comp, id]
  rw [UInt8.toNat_ofNat']
  omega
 rw [← back hl, ← back hm, h2]
theorem str_eq {l m : List Int} (hl : Bytes l) (hm : Bytes m) : ((strOfNums l).toList = (strOfNums m).toList) ↔ l = m := by
 constructor
 ·intro h
  rw [ByteArray.toList_eq, ByteArray.toList_eq, strOfNums_data, strOfNums_data] at h
  exact str_one hl hm h
 ·intro h; rw [h]
theorem str_beq {l m : List Int} (hl : Bytes l) (hm : Bytes m) : ((strOfNums l).toList == (strOfNums m).toList) = decide (l = m) := by
 rw [Bool.eq_iff_iff]
 simp only [beq_iff_eq, decide_eq_true_eq]
 exact str_eq hl hm
theorem lays_bytes {l : List Int} (hw : Words l) : Bytes (lays l) := by
 intro x hx
 unfold lays at hx
 obtain ⟨n, hn, hx⟩ := List.mem_flatMap.1 hx
 have := hw n hn
 simp only [List.mem_cons, List.not_mem_nil, or_false] at hx
 rcases hx with rfl | rfl <;> omega
theorem bytes_app {a b : List Int} (ha : Bytes a) (hb : Bytes b) : Bytes (a ++ b) := by
 intro x hx
 rcases List.mem_append.1 hx with h | h
 ·exact ha x h
 ·exact hb x h
theorem bytes_cons {a : Int} {b : List Int} (ha : 0 ≤ a ∧ a < 256) (hb : Bytes b) : Bytes (a :: b) := by
 intro x hx
 rcases List.mem_cons.1 hx with rfl | h
 ·exact ha
 ·exact hb x h
theorem bytes_nil : Bytes [] := by intro x hx; cases hx
theorem packs_bytes {l : List Int} (hb : Bits l) : Bytes (packs l) := by
 intro x hx
 unfold packs at hx
 obtain ⟨j, _, rfl⟩ := List.mem_map.1 hx
 have := part_range hb (8 * j) 8
 omega
theorem counted_bytes {l : List Int} (hb : Bytes l) : Bytes ((l.length : Int) % 256 :: l) := bytes_cons (by omega) hb
theorem reqB_bytes {fn a1 a2 : Int} {l : List Int} {a4 a5 a6 : Int} (I : MayIs fn a1 a2 l a4 a5 a6) : Bytes (reqB fn a1 a2 l a4 a5 a6) := by
 have hlen := I.len
 have ha2 : (¬ (fn = 5 ∨ fn = 6 ∨ fn = 22)) → 0 ≤ a2 ∧ a2 ≤ 65535 := by
  intro h
  have := I.fns
  by_cases c : fn = 15 ∨ fn = 16
  ·have := I.cntl c; omega
  ·have := I.cnt (by omega); omega
 unfold reqB
 refine bytes_app (bytes_app (bytes_cons (by omega) bytes_nil) (lays_bytes (words1 I.addr))) ?_
 unfold tailB
 split
 ·next c =>
  have hb := bits_rd (I.bits (Or.inl c)) 0
  exact lays_bytes (words1 (by omega))
 split
 ·next c =>
  have h1 := I.one (Or.inr c)
  have hlt : 0 < l.length := by omega
  have hrd : rd l 0 = l[0] := by simp [rd, List.getElem?_eq_getElem hlt]
  exact lays_bytes (words1 (by rw [hrd]; exact I.wrds (Or.inl c) _ (List.getElem_mem hlt)))
 split
 ·exact lays_bytes (words2 I.m.1 I.m.2)
 split
 ·next c => exact bytes_app (lays_bytes (words1 (ha2 (by omega)))) (counted_bytes (packs_bytes (I.bits (Or.inr c))))
 split
 ·next c => exact bytes_app (lays_bytes (words3 (ha2 (by omega)) I.tow (by omega))) (counted_bytes (lays_bytes (I.wrds (by omega))))
 split
 ·next c => exact bytes_app (lays_bytes (words1 (ha2 (by omega)))) (counted_bytes (lays_bytes (I.wrds (by omega))))
 ·exact lays_bytes (words1 (ha2 (by omega)))
theorem reqB_len {fn a1 a2 : Int} {l : List Int} {a4 a5 a6 : Int} (I : MayIs fn a1 a2 l a4 a5 a6) : (reqB fn a1 a2 l a4 a5 a6).length =
 if fn = 15 then 6 + (l.length + 7) / 8 else if fn = 16 then 6 + 2 * l.length else if fn = 22 then 7 else if fn = 23 then 10 + 2 * l.length else 5 := by
 have hfn := I.fns
 unfold reqB tailB
 rcases hfn with rfl | rfl | rfl | rfl | rfl | rfl | rfl | rfl | rfl | rfl <;> simp [lays_len, packs_len] <;> omega
def ansMayB (fn a2 : Int) (al : List Int) (code : Int) : Bool :=
 if code = 0 then
  (if fn = 1 ∨ fn = 2 then decide ((al.length : Int) = a2) && decide (Bits al)
   else if fn = 3 ∨ fn = 4 ∨ fn = 23 then decide ((al.length : Int) = a2) && decide (Words al)
   else decide ((al.length : Int) = 0))
 else decide (1 ≤ code ∧ code ≤ 255) && decide ((al.length : Int) = 0)
def ansB (fn a1 a2 : Int) (l : List Int) (a4 a5 a6 : Int) (al : List Int) (code : Int) : List Int :=
 if code = 0 then
  (if fn = 1 ∨ fn = 2 then fn % 256 :: ((packs al).length : Int) % 256 :: packs al
   else if fn = 3 ∨ fn = 4 ∨ fn = 23 then fn % 256 :: ((lays al).length : Int) % 256 :: lays al
   else if fn = 15 ∨ fn = 16 then fn % 256 :: lays [a1, a2]
   else reqB fn a1 a2 l a4 a5 a6)
 else [fn + 128, code]
theorem psome_f (l : List Int) (lo hi m : Int) (hl : l.length ≤ 1000000000000) (k : Nat) (hk : l.length + 1 ≤ k) : pdu_some.f k l lo hi m = some (decide (lo ≤ (l.length : Int) ∧ (l.length : Int) ≤ hi) && decide (Low m l)) := by
 unfold pdu_some.f
 rw [within_f, Option.bind_some]
 by_cases h : lo ≤ (l.length : Int) ∧ (l.length : Int) ≤ hi
 ·rw [decide_eq_true h, if_pos rfl, all_f l m hl k hk, Option.bind_some, Bool.true_and]
 ·rw [decide_eq_false h, if_neg (by decide), Bool.false_and]
theorem decide_same (a b : Int) : decide (b ≤ a ∧ a ≤ b) = decide (a = b) := by rw [decide_eq_decide]; omega
theorem pans_f (k : Nat) (fn a1 a2 : Int) (l : List Int) (a4 a5 a6 : Int) (al : List Int) (code : Int) (hl : al.length ≤ 1000000000000) (hk : al.length + 10 ≤ k) :
 pdu_answer.f k fn a1 a2 l a4 a5 a6 al code = some (ansMayB fn a2 al code) := by
 obtain ⟨k, rfl⟩ : ∃ m, k = m + 1 := ⟨k - 1, by omega⟩
 unfold pdu_answer.f ansMayB
 by_cases hc : code = 0
 ·rw [if_pos hc, if_pos hc]
  have hj : ∀ b, pdu_answer.j0 (k + 1) fn b fn a1 a2 l a4 a5 a6 al code = if b = true then some (decide ((al.length : Int) = a2) && decide (Bits al)) else if fn = 3 ∨ fn = 4 ∨ fn = 23 then some (decide ((al.length : Int) = a2) && decide (Words al)) else some (decide ((al.length : Int) = 0)) := by
   intro b
   rw [pdu_answer.j0]
   rw [psome_f al a2 a2 1 hl k (by omega), psome_f al a2 a2 65535 hl k (by omega)]
   simp only [Option.bind_some]
   rw [decide_same, show decide (Low 1 al) = decide (Bits al) from by rw [decide_eq_decide]; exact low_one al, show decide (Low 65535 al) = decide (Words al) from rfl, beq_dec]
   by_cases c3 : fn = 3
   ·simp [c3]
   by_cases c4 : fn = 4
   ·simp [c4]
   by_cases c23 : fn = 23
   ·simp [c23]
   simp [c3, c4, c23]
  by_cases c1 : fn = 1
  ·rw [if_pos c1, hj, if_pos (by simp [c1]), if_pos (Or.inl c1)]
  rw [if_neg c1, hj]
  by_cases c2 : fn = 2
  ·rw [if_pos (by simp [c2]), if_pos (Or.inr c2)]
  have h12 : ¬ (fn = 1 ∨ fn = 2) := by omega
  rw [if_neg h12, if_neg (show ¬ ((fn == 2) = true) by simp [c2])]
  split <;> rfl
 ·rw [if_neg hc, if_neg hc, within_f, Option.bind_some]
  by_cases h : 1 ≤ code ∧ code ≤ 255
  ·rw [decide_eq_true h, if_pos rfl, Bool.true_and, beq_dec]
  ·rw [decide_eq_false h, if_neg (by decide), Bool.false_and]
theorem or_high : ∀ m : Fin 128, Go.bits .or .u8 (m.1 : Int) 128 = (m.1 : Int) + 128 := by decide +kernel
theorem fn_or {fn : Int} (h : 0 ≤ fn ∧ fn < 128) : Go.bits .or .u8 (fn % 256) 128 = fn + 128 := by
 rw [show fn % 256 = fn from by omega]
 obtain ⟨m, rfl⟩ := Int.eq_ofNat_of_zero_le h.1
 exact or_high ⟨m, by omega⟩
structure AnsIs (fn a2 : Int) (al : List Int) (code : Int) : Prop where
 cd : 0 ≤ code ∧ code ≤ 255
 none : code ≠ 0 → al = []
 len : code = 0 → fn = 1 ∨ fn = 2 ∨ fn = 3 ∨ fn = 4 ∨ fn = 23 → (al.length : Int) = a2
 bits : code = 0 → fn = 1 ∨ fn = 2 → Bits al
 wrds : code = 0 → fn = 3 ∨ fn = 4 ∨ fn = 23 → Words al
 nov : code = 0 → ¬ (fn = 1 ∨ fn = 2 ∨ fn = 3 ∨ fn = 4 ∨ fn = 23) → al = []
theorem ans_is {fn a2 : Int} {al : List Int} {code : Int} (h : ansMayB fn a2 al code = true) : AnsIs fn a2 al code := by
 unfold ansMayB at h
 split at h
 ·next c0 =>
  split at h
  ·next c =>
   simp only [Bool.and_eq_true, decide_eq_true_eq] at h
   exact ⟨by omega, fun e => absurd c0 e, fun _ _ => h.1, fun _ _ => h.2, fun _ _ => by omega, fun _ _ => by omega⟩
  split at h
  ·next c1 c =>
   simp only [Bool.and_eq_true, decide_eq_true_eq] at h
   exact ⟨by omega, fun e => absurd c0 e, fun _ _ => h.1, fun _ _ => by omega, fun _ _ => h.2, fun _ _ => by omega⟩
  ·next c1 c =>
   simp only [decide_eq_true_eq] at h
   exact ⟨by omega, fun e => absurd c0 e, fun _ _ => by omega, fun _ _ => by omega, fun _ _ => by omega, fun _ _ => List.length_eq_zero_iff.1 (by omega)⟩
 ·next c0 =>
  simp only [Bool.and_eq_true, decide_eq_true_eq] at h
  exact ⟨by omega, fun _ => List.length_eq_zero_iff.1 (by omega), fun e => absurd e c0, fun e => absurd e c0, fun e => absurd e c0, fun e => absurd e c0⟩
theorem ansbytes_no (k : Nat) (fn a1 a2 : Int) (l : List Int) (a4 a5 a6 : Int) (al : List Int) (code : Int) (hl : l.length ≤ 1000000000000) (hk : l.length + 10 ≤ k) (hl2 : al.length ≤ 1000000000000) (hk2 : al.length + 10 ≤ k)
 (h : ¬ (mayB fn a1 a2 l a4 a5 a6 = true ∧ ansMayB fn a2 al code = true)) : pdu_AnswerBytes.f k fn a1 a2 l a4 a5 a6 al code = some ([], 1) := by
 unfold pdu_AnswerBytes.f
 rw [check_f k fn a1 a2 l a4 a5 a6 hl hk, Option.bind_some]
 have hj : pdu_AnswerBytes.j0 k true fn a1 a2 l a4 a5 a6 al code = some ([], 1) := by
  obtain ⟨k, rfl⟩ : ∃ m, k = m + 1 := ⟨k - 1, by omega⟩
  rw [pdu_AnswerBytes.j0]
  rw [if_pos rfl]
 cases hm : mayB fn a1 a2 l a4 a5 a6
 ·rw [if_neg (by decide), hj]
 ·rw [if_pos (by decide), pans_f k fn a1 a2 l a4 a5 a6 al code hl2 hk2, Option.bind_some]
  cases ha : ansMayB fn a2 al code
  ·exact hj
  ·exact absurd ⟨hm, ha⟩ h
theorem ansbytes_yes (k : Nat) (fn a1 a2 : Int) (l : List Int) (a4 a5 a6 : Int) (al : List Int) (code : Int) (hk : 10000 ≤ k) (h : mayB fn a1 a2 l a4 a5 a6 = true) (h2 : ansMayB fn a2 al code = true) (hal : al.length ≤ 2500) :
 pdu_AnswerBytes.f k fn a1 a2 l a4 a5 a6 al code = some (ansB fn a1 a2 l a4 a5 a6 al code, 0) := by
 have I := may_is h
 have J := ans_is h2
 have hlen := I.len
 have hfn := I.fns
 have ha := I.addr
 have hcode := J.cd
 unfold pdu_AnswerBytes.f
 rw [check_f k fn a1 a2 l a4 a5 a6 (by omega) (by omega), Option.bind_some, h, if_pos (by decide), pans_f k fn a1 a2 l a4 a5 a6 al code (by omega) (by omega), Option.bind_some, h2]
 obtain ⟨k, rfl⟩ : ∃ m, k = m + 1 + 1 + 1 + 1 := ⟨k - 4, by omega⟩
 rw [pdu_AnswerBytes.j0]
 unfold ansB
 rw [if_neg (by decide)]
 by_cases hc : code = 0
 ·rw [if_pos hc, if_pos hc, Option.bind_some]
  have e : (if fn = 1 then pdu_AnswerBytes.j1 (k + 1 + 1 + 1) [fn % 256] fn (fn == 1) fn a1 a2 l a4 a5 a6 al code else pdu_AnswerBytes.j1 (k + 1 + 1 + 1) [fn % 256] fn (fn == 2) fn a1 a2 l a4 a5 a6 al code) = pdu_AnswerBytes.j1 (k + 1 + 1 + 1) [fn % 256] fn (decide (fn = 1 ∨ fn = 2)) fn a1 a2 l a4 a5 a6 al code := by
   by_cases c1 : fn = 1
   ·(first | rw [if_pos c1] | rw [if_neg (by omega), if_pos c1]); congr 1; rw [beq_dec, decide_eq_decide]; omega
   ·rw [if_neg c1]; congr 1; rw [beq_dec, decide_eq_decide]; omega
  rw [e]
  rw [pdu_AnswerBytes.j1]
  by_cases c12 : fn = 1 ∨ fn = 2
  ·rw [if_pos (decide_eq_true c12), if_pos c12, ppacked_f al (J.bits hc c12) (by omega) (k + 1 + 1) (by omega), Option.bind_some, pcounted_f _ _ (by simp) (by rw [packs_len]; omega), Option.bind_some]
   rfl
  rw [if_neg (by rw [decide_eq_true_eq]; exact c12), if_neg c12]
  have e : (if fn = 3 then pdu_AnswerBytes.j2 (k + 1 + 1) [fn % 256] fn (fn == 3) fn a1 a2 l a4 a5 a6 al code else if fn = 4 then pdu_AnswerBytes.j2 (k + 1 + 1) [fn % 256] fn (fn == 4) fn a1 a2 l a4 a5 a6 al code else pdu_AnswerBytes.j2 (k + 1 + 1) [fn % 256] fn (fn == 23) fn a1 a2 l a4 a5 a6 al code) = pdu_AnswerBytes.j2 (k + 1 + 1) [fn % 256] fn (decide (fn = 3 ∨ fn = 4 ∨ fn = 23)) fn a1 a2 l a4 a5 a6 al code := by
   by_cases c3 : fn = 3
   ·(first | rw [if_pos c3] | rw [if_neg (by omega), if_pos c3]); congr 1; rw [beq_dec, decide_eq_decide]; omega
   by_cases c4 : fn = 4
   ·rw [if_neg c3, if_pos c4]; congr 1; rw [beq_dec, decide_eq_decide]; omega
   rw [if_neg c3, if_neg c4]; congr 1; rw [beq_dec, decide_eq_decide]; omega
  rw [e]
  rw [pdu_AnswerBytes.j2]
  by_cases c3 : fn = 3 ∨ fn = 4 ∨ fn = 23
  ·have hla := J.len hc (by omega)
   have hcn := I.cnt (by omega)
   have hne : al ≠ [] := by intro e; rw [e] at hla; simp at hla; omega
   rw [if_pos (decide_eq_true c3), if_pos c3, lay_f [] al hne (J.wrds hc c3) (by simp) (by omega), Option.bind_some, List.nil_append, pcounted_f _ _ (by simp) (by rw [lays_len]; omega), Option.bind_some]
   rfl
  rw [if_neg (by rw [decide_eq_true_eq]; exact c3), if_neg c3]
  have e : (if fn = 15 then pdu_AnswerBytes.j3 (k + 1) [fn % 256] (fn == 15) fn a1 a2 l a4 a5 a6 else pdu_AnswerBytes.j3 (k + 1) [fn % 256] (fn == 16) fn a1 a2 l a4 a5 a6) = pdu_AnswerBytes.j3 (k + 1) [fn % 256] (decide (fn = 15 ∨ fn = 16)) fn a1 a2 l a4 a5 a6 := by
   by_cases c1 : fn = 15
   ·(first | rw [if_pos c1] | rw [if_neg (by omega), if_pos c1]); congr 1; rw [beq_dec, decide_eq_decide]; omega
   ·rw [if_neg c1]; congr 1; rw [beq_dec, decide_eq_decide]; omega
  rw [e]
  rw [pdu_AnswerBytes.j3]
  by_cases c5 : fn = 15 ∨ fn = 16
  ·have hcn := I.cntl c5
   rw [if_pos (decide_eq_true c5), if_pos c5, lay_f [fn % 256] [a1, a2] (by simp) (words2 ha (by omega)) (by simp) (by simp), Option.bind_some]
   rfl
  rw [if_neg (by rw [decide_eq_true_eq]; exact c5), if_neg c5, bytes_yes k fn a1 a2 l a4 a5 a6 (by omega) h, Option.bind_some]
 ·rw [if_neg hc, if_neg hc, fn_or (by omega), show code % 256 = code from by omega]
theorem rbits_f (l : List Int) (hl : l.length ≤ 1000000000000) (k : Nat) (hk : l.length + 1 ≤ k) : basculeref01_Bits.f k l = some (decide (Bits l)) := MathP.bits_f l hl k hk
theorem rwords_l0 (l : List Int) (hl : l.length ≤ 1000000000000) : ∀ (d i k : Nat), i + d = l.length → d + 1 ≤ k → basculeref03_words.l0 k l (i : Int) = some (decide (Words (l.drop i)))
 | 0, i, k, hi, hk => by
  obtain ⟨k, rfl⟩ := Nat.exists_eq_add_of_le' (show 1 ≤ k by omega)
  unfold basculeref03_words.l0
  rw [if_neg (by omega), List.drop_of_length_le (by omega)]
  exact congrArg some (decide_eq_true (fun x hx => by cases hx)).symm
 | d + 1, i, k, hi, hk => by
  obtain ⟨k, rfl⟩ := Nat.exists_eq_add_of_le' (show 1 ≤ k by omega)
  have hw : wrap64 ((i : Int) + 1) = ((i + 1 : Nat) : Int) := by rw [wrap64_id _ (by omega) (by omega)]; omega
  have hlt : i < l.length := by omega
  have hcons : l.drop i = l[i] :: l.drop (i + 1) := List.drop_eq_getElem_cons hlt
  unfold basculeref03_words.l0
  rw [if_pos (by omega), if_pos (by omega), hw, is_f, Option.bind_some, rd_nat i hlt, hcons]
  have e : Words (l[i] :: l.drop (i + 1)) ↔ (0 ≤ l[i] ∧ l[i] ≤ 65535) ∧ Words (l.drop (i + 1)) := List.forall_mem_cons
  unfold isB
  by_cases h : 0 ≤ l[i] ∧ l[i] ≤ 65535
  ·rw [if_pos (by rw [decide_eq_true_eq]; exact h), rwords_l0 l hl d (i + 1) k (by omega) (by omega)]
   congr 1; rw [decide_eq_decide, e]; exact ⟨fun x => ⟨h, x⟩, fun x => x.2⟩
  ·rw [if_neg (by rw [decide_eq_true_eq]; exact h)]
   congr 1; rw [eq_comm, decide_eq_false_iff_not, e]; exact fun x => h x.1
theorem rwords_f (l : List Int) (hl : l.length ≤ 1000000000000) (k : Nat) (hk : l.length + 1 ≤ k) : basculeref03_words.f k l = some (decide (Words l)) := by
 have := rwords_l0 l hl l.length 0 k (by omega) (by omega)
 unfold basculeref03_words.f
 rw [List.drop_zero] at this
 exact this
theorem rans_f (k : Nat) (fn a1 a2 : Int) (l : List Int) (a4 a5 a6 : Int) (al : List Int) (code : Int) (hl : al.length ≤ 1000000000000) (hk : al.length + 10 ≤ k) :
 basculeref03_AnswerMay.f k fn a1 a2 l a4 a5 a6 al code = some (ansMayB fn a2 al code) := by
 obtain ⟨k, rfl⟩ : ∃ m, k = m + 1 := ⟨k - 1, by omega⟩
 unfold basculeref03_AnswerMay.f ansMayB
 by_cases hc : code = 0
 ·rw [if_pos hc, if_pos hc]
  have hj : ∀ b, basculeref03_AnswerMay.j0 (k + 1) fn b fn a1 a2 l a4 a5 a6 al code = if b = true then some (decide ((al.length : Int) = a2) && decide (Bits al)) else if fn = 3 ∨ fn = 4 ∨ fn = 23 then some (decide ((al.length : Int) = a2) && decide (Words al)) else some (decide ((al.length : Int) = 0)) := by
   intro b
   rw [basculeref03_AnswerMay.j0]
   rw [rbits_f al hl k (by omega), rwords_f al hl k (by omega)]
   simp only [Option.bind_some]
   rw [beq_dec]
   have hif : ∀ x : Bool, (if (al.length : Int) = a2 then some x else some false) = some (decide ((al.length : Int) = a2) && x) := by
    intro x; by_cases h : (al.length : Int) = a2 <;> simp [h]
   rw [hif, hif]
   by_cases c3 : fn = 3
   ·simp [c3]
   by_cases c4 : fn = 4
   ·simp [c4]
   by_cases c23 : fn = 23
   ·simp [c23]
   simp [c3, c4, c23]
  by_cases c1 : fn = 1
  ·rw [if_pos c1, hj, if_pos (by simp [c1]), if_pos (Or.inl c1)]
  rw [if_neg c1, hj]
  by_cases c2 : fn = 2
  ·rw [if_pos (by simp [c2]), if_pos (Or.inr c2)]
  have h12 : ¬ (fn = 1 ∨ fn = 2) := by omega
  rw [if_neg h12, if_neg (show ¬ ((fn == 2) = true) by simp [c2])]
  split <;> rfl
 ·rw [if_neg hc, if_neg hc]
  by_cases h : 1 ≤ code
  ·by_cases h2 : code ≤ 255
   ·rw [if_pos h, if_pos h2, decide_eq_true ⟨h, h2⟩, Bool.true_and, beq_dec]
   ·rw [if_pos h, if_neg h2, decide_eq_false (by omega), Bool.false_and]
  ·rw [if_neg h, decide_eq_false (by omega), Bool.false_and]
theorem ransbytes_yes (k : Nat) (fn a1 a2 : Int) (l : List Int) (a4 a5 a6 : Int) (al : List Int) (code : Int) (hk : 20000 ≤ k) (h : mayB fn a1 a2 l a4 a5 a6 = true) (h2 : ansMayB fn a2 al code = true) (hal : al.length ≤ 2500) :
 basculeref03_AnswerBytes.f k fn a1 a2 l a4 a5 a6 al code = some (ansB fn a1 a2 l a4 a5 a6 al code) := by
 have I := may_is h
 have J := ans_is h2
 have hlen := I.len
 have hfn := I.fns
 have ha := I.addr
 have hcode := J.cd
 obtain ⟨k, rfl⟩ : ∃ m, k = m + 1 + 1 + 1 := ⟨k - 3, by omega⟩
 unfold basculeref03_AnswerBytes.f ansB
 by_cases hc : code = 0
 ·rw [if_pos hc, if_pos hc, Option.bind_some]
  have e : (if fn = 1 then basculeref03_AnswerBytes.j0 (k + 1 + 1 + 1) [fn % 256] fn (fn == 1) fn a1 a2 l a4 a5 a6 al code else basculeref03_AnswerBytes.j0 (k + 1 + 1 + 1) [fn % 256] fn (fn == 2) fn a1 a2 l a4 a5 a6 al code) = basculeref03_AnswerBytes.j0 (k + 1 + 1 + 1) [fn % 256] fn (decide (fn = 1 ∨ fn = 2)) fn a1 a2 l a4 a5 a6 al code := by
   by_cases c1 : fn = 1
   ·(first | rw [if_pos c1] | rw [if_neg (by omega), if_pos c1]); congr 1; rw [beq_dec, decide_eq_decide]; omega
   ·rw [if_neg c1]; congr 1; rw [beq_dec, decide_eq_decide]; omega
  rw [e]
  rw [basculeref03_AnswerBytes.j0]
  by_cases c12 : fn = 1 ∨ fn = 2
  ·rw [if_pos (decide_eq_true c12), if_pos c12, refpack_f al (J.bits hc c12) (by omega) (k + 1 + 1) (by omega), Option.bind_some, rcounted_f _ (by rw [packs_len]; omega), Option.bind_some, if_pos (by simp [packs_len]; omega)]
   rfl
  rw [if_neg (by rw [decide_eq_true_eq]; exact c12), if_neg c12]
  have e : (if fn = 3 then basculeref03_AnswerBytes.j1 (k + 1 + 1) [fn % 256] fn (fn == 3) fn a1 a2 l a4 a5 a6 al code else if fn = 4 then basculeref03_AnswerBytes.j1 (k + 1 + 1) [fn % 256] fn (fn == 4) fn a1 a2 l a4 a5 a6 al code else basculeref03_AnswerBytes.j1 (k + 1 + 1) [fn % 256] fn (fn == 23) fn a1 a2 l a4 a5 a6 al code) = basculeref03_AnswerBytes.j1 (k + 1 + 1) [fn % 256] fn (decide (fn = 3 ∨ fn = 4 ∨ fn = 23)) fn a1 a2 l a4 a5 a6 al code := by
   by_cases c3 : fn = 3
   ·(first | rw [if_pos c3] | rw [if_neg (by omega), if_pos c3]); congr 1; rw [beq_dec, decide_eq_decide]; omega
   by_cases c4 : fn = 4
   ·rw [if_neg c3, if_pos c4]; congr 1; rw [beq_dec, decide_eq_decide]; omega
   rw [if_neg c3, if_neg c4]; congr 1; rw [beq_dec, decide_eq_decide]; omega
  rw [e]
  rw [basculeref03_AnswerBytes.j1]
  by_cases c3 : fn = 3 ∨ fn = 4 ∨ fn = 23
  ·rw [if_pos (decide_eq_true c3), if_pos c3, rlay_f al (J.wrds hc c3) (by omega) (k + 1) (by omega), Option.bind_some, rcounted_f _ (by rw [lays_len]; omega), Option.bind_some, if_pos (by simp [lays_len]; omega)]
   rfl
  rw [if_neg (by rw [decide_eq_true_eq]; exact c3), if_neg c3]
  have e : (if fn = 15 then basculeref03_AnswerBytes.j2 (k + 1) [fn % 256] (fn == 15) fn a1 a2 l a4 a5 a6 else basculeref03_AnswerBytes.j2 (k + 1) [fn % 256] (fn == 16) fn a1 a2 l a4 a5 a6) = basculeref03_AnswerBytes.j2 (k + 1) [fn % 256] (decide (fn = 15 ∨ fn = 16)) fn a1 a2 l a4 a5 a6 := by
   by_cases c1 : fn = 15
   ·(first | rw [if_pos c1] | rw [if_neg (by omega), if_pos c1]); congr 1; rw [beq_dec, decide_eq_decide]; omega
   ·rw [if_neg c1]; congr 1; rw [beq_dec, decide_eq_decide]; omega
  rw [e]
  rw [basculeref03_AnswerBytes.j2]
  by_cases c5 : fn = 15 ∨ fn = 16
  ·have hcn := I.cntl c5
   rw [if_pos (decide_eq_true c5), if_pos c5, rlay_f [a1, a2] (words2 ha (by omega)) (by simp) k (by simp; omega), Option.bind_some, if_pos (by simp [lays_len])]
   rfl
  rw [if_neg (by rw [decide_eq_true_eq]; exact c5), if_neg c5, rbytes_yes k fn a1 a2 l a4 a5 a6 (by omega) h, Option.bind_some]
 ·rw [if_neg hc, if_neg hc, wrap64_id _ (by omega) (by omega), show (fn + 128) % 256 = fn + 128 from by omega, show code % 256 = code from by omega]
end Go.Proofs.Ytocicifgglkaeaa.Mth
end

section
namespace Go.Proofs.Ytocicifgglkaeaa.ExtP
open Go.RowKit Go.Proofs.YtocicifgglkaeaaW.PrintWords Go.Proofs.YtocicifgglkaeaaW.PrintLast Go.Proofs.YtocicifgglkaeaaW.PrintMore Go.Proofs.Ytocicifgglkaeaa.ExtF Go.Proofs.Ytocicifgglkaeaa.ExtN Go.Proofs.Ytocicifgglkaeaa.PP Go.Proofs.Ytocicifgglkaeaa.PQ Go.Proofs.Ytocicifgglkaeaa.ExtM Go.Proofs.Ytocicifgglkaeaa.MathP Go.Proofs.Ytocicifgglkaeaa.Mth
set_option linter.unusedVariables false
set_option linter.unusedSimpArgs false
theorem cut_u8 (w : World) (A : Option Addr) (c : Nat) (l : List Int) (j : Int) (h0 : 0 ≤ j) (hj : j ≤ l.length) (hc : l.length ≤ c) (h : Kd.C (Kd.int .u8) w A l.length l) :
 ∃ (D : Option Addr) (lt : List Int) (d : Nat), lt = l.drop j.toNat ∧ (∀ W : World, (Instr.slice 58 (.slice A l.length c) (some (.int .i64 j)) none none).run Try.prog W = .ok (.slice D lt.length d) W) ∧ Kd.C (Kd.int .u8) w D lt.length lt ∧ lt.length ≤ d := by
 obtain ⟨i0, hi0, _, hsz, _⟩ := info_parts Ext.info5
 obtain ⟨D, h1, h2, h3⟩ := print_drop_of (P := Try.prog) (Value.int .u8) 0 58 5 .i64 Try.underlying58 hi0 hsz A c l j h0 hj hc
 exact ⟨D, _, _, rfl, h1, Kd.C_of_reads (h1 := fun _ => rfl) (h2 _ (Kd.reads_of_C h)), h3⟩
def unp (b : List Int) (n : Int) : List Int := if n ≤ 8 * (b.length : Int) then unbits b n.toNat else []
def cand (fn : Int) (b L : List Int) : Int × List Int × Int × Int × Int :=
 if fn = 5 then (0, [rd L 1 / 65280], 0, 0, 0)
 else if fn = 6 then (0, [rd L 1], 0, 0, 0)
 else if fn = 22 then (0, [], 0, rd L 1, if 2 < L.length then rd L 2 else 0)
 else if fn = 15 then (rd L 1, unp (b.drop (min 6 b.length)) (rd L 1), 0, 0, 0)
 else if fn = 23 then (rd L 1, wordsOf (b.drop (min 10 b.length)), (if 2 < L.length then rd L 2 else 0), 0, 0)
 else if fn = 16 then (rd L 1, wordsOf (b.drop (min 6 b.length)), 0, 0, 0)
 else (rd L 1, [], 0, 0, 0)
def ParsePost (w : World) (r1 r2 r3 : Int) (r4 : List Int) (r5 r6 r7 r8 : Int) (e : Ending) (w' : World) : Prop :=
 ∃ (A : Option Addr) (c : Nat), e = .returned (.tuple #[.agg #[.int .i64 r1, .int .i64 r2, .int .i64 r3, .slice A r4.length c, .int .i64 r5, .int .i64 r6, .int .i64 r7], .int .i64 r8]) ∧ r4.length ≤ c ∧ Kd.C (Kd.int .i64) w' A r4.length r4 ∧ Below w.heap.size w w'
theorem F_cell1 {W : World} {g o gb : Nat} {x : Int} (h : W.cell? ⟨g, o, none⟩ = some (.int .i64 x)) (hne : g ≠ gb) : Kd.F (Kd.int .i64) W (fun k => k ≠ gb) (some ⟨g, o, none⟩) [x].length [x] := by
 intro W' hW
 refine Kd.C_of_reads (d := 0) (h1 := fun _ => rfl) ⟨rfl, by simp, fun _ => ⟨_, rfl, fun j hj => ?_⟩⟩
 obtain rfl : j = 0 := by simp at hj; omega
 rw [Addr.add_zero']
 have hb := hW g hne (World.block_lt_of_cell? W _ h)
 exact (World.cell?_of_block (w := W) hb).trans h
theorem F_nil' (W : World) (ok : Nat → Prop) : Kd.F (Kd.int .i64) W ok none ([] : List Int).length [] := Kd.F_nil _ _ _
theorem F_two {W : World} {A : Option Addr} {n g g' cc e b : Nat} {xs : List Int} (h : (Kd.int .i64).R e W b (fun _ => True) (.slice A n cc) xs) (hg : g < b) (hg' : g' < b) : Kd.F (Kd.int .i64) W (fun k => k ≠ g ∧ k ≠ g') A xs.length xs := by
 obtain ⟨hn, _, _⟩ := Kd.R_reads' h
 subst hn
 exact Kd.R_F (Kd.R_mono (Kd.R_bound h) (fun k hk => by have := hk.2.1; omega))
theorem size_set' (W : World) (a : Addr) (u : Value) : (W.setCell a u).heap.size = W.heap.size := by simp [World.setCell]
theorem size_drewN' (W : World) (n : Nat) : (W.drewN n).heap.size = W.heap.size := rfl
theorem size_drew' (W : World) : W.drew.heap.size = W.heap.size := rfl
theorem size_alloc' (W : World) (o : Obj) : (W.alloc o).heap.size = W.heap.size + 1 := by simp
theorem cell_set_self {W : World} {a : Addr} {v u : Value} (h : W.cell? a = some v) : (W.setCell a u).cell? a = some u := by go_simp
theorem unp_f (b : List Int) (hb : Bytes b) (n : Int) (hn : 0 ≤ n ∧ n ≤ 65535) (hl : b.length ≤ 1000000) (k : Nat) (hk : 100000 ≤ k) : PR.wire_Unpack.f k b n = some (unp b n, if n ≤ 8 * (b.length : Int) then 0 else 7) := by
 unfold unp
 by_cases h : n ≤ 8 * (b.length : Int)
 ·rw [if_pos h, if_pos h]
  obtain ⟨m, rfl⟩ := Int.eq_ofNat_of_zero_le hn.1
  exact unpack_yes b hb m (by omega) (by omega) k (by omega)
 ·rw [if_neg h, if_neg h]
  unfold PR.wire_Unpack.f
  rw [if_neg (by omega), wrap64_id _ (by omega) (by omega), if_pos (by omega)]
def parseG (fn a1 : Int) (b L : List Int) : Int × Int × Int × List Int × Int × Int × Int × Int :=
 if mayB fn a1 (cand fn b L).1 (cand fn b L).2.1 (cand fn b L).2.2.1 (cand fn b L).2.2.2.1 (cand fn b L).2.2.2.2 = true ∧ reqB fn a1 (cand fn b L).1 (cand fn b L).2.1 (cand fn b L).2.2.1 (cand fn b L).2.2.2.1 (cand fn b L).2.2.2.2 = b then (fn, a1, (cand fn b L).1, (cand fn b L).2.1, (cand fn b L).2.2.1, (cand fn b L).2.2.2.1, (cand fn b L).2.2.2.2, 0) else (0, 0, 0, [], 0, 0, 0, 4)
def ParseOf (w : World) (t : Int × Int × Int × List Int × Int × Int × Int × Int) (e : Ending) (w' : World) : Prop := ParsePost w t.1 t.2.1 t.2.2.1 t.2.2.2.1 t.2.2.2.2.1 t.2.2.2.2.2.1 t.2.2.2.2.2.2.1 t.2.2.2.2.2.2.2 e w'
theorem parseG_no {fn a1 a2 a4 a5 a6 : Int} {vs b L : List Int} (hc : cand fn b L = (a2, vs, a4, a5, a6)) (h : ¬ (mayB fn a1 a2 vs a4 a5 a6 = true ∧ reqB fn a1 a2 vs a4 a5 a6 = b)) : parseG fn a1 b L = (0, 0, 0, [], 0, 0, 0, 4) := by
 unfold parseG; rw [hc]; exact if_neg h
theorem parseG_yes {fn a1 a2 a4 a5 a6 : Int} {vs b L : List Int} (hc : cand fn b L = (a2, vs, a4, a5, a6)) (h : mayB fn a1 a2 vs a4 a5 a6 = true ∧ reqB fn a1 a2 vs a4 a5 a6 = b) : parseG fn a1 b L = (fn, a1, a2, vs, a4, a5, a6, 0) := by
 unfold parseG; rw [hc]; exact if_pos h
theorem cand_len {fn a2 a4 a5 a6 : Int} {vs b L : List Int} (hx : rd L 1 ≤ 65535) (hb : b.length ≤ 100000) (hc : cand fn b L = (a2, vs, a4, a5, a6)) : vs.length ≤ 100000 := by
 have hw : ∀ n, (wordsOf (b.drop n)).length ≤ 100000 := fun n => by rw [wordsOf_len, List.length_drop]; omega
 have hu : ∀ n, (unp (b.drop n) (rd L 1)).length ≤ 100000 := fun n => by
  unfold unp
  split
  ·rw [unbits_len]; omega
  ·simp
 have : vs = (cand fn b L).2.1 := by rw [hc]
 rw [this]
 unfold cand
 repeat' split
 all_goals first | exact hw _ | exact hu _ | simp
set_option maxHeartbeats 8000000 in
set_option maxRecDepth 100000 in
theorem parse_walk (KF : Nat) (A0 : Option Addr) (c0 : Nat) (l0 L : List Int) (fn a1 x1 : Int) (w : World) (hr0 : Kd.C (Kd.int .u8) w A0 l0.length l0) (hc0 : l0.length ≤ c0) (h5 : 5 ≤ l0.length) (hl0 : l0.length ≤ 100000) (hby : Bytes l0) (hK : 200000 ≤ KF) (hfn : rd l0 0 = fn) (hfn0 : 0 ≤ fn) (hfn1 : fn < 256) (fL : Aside0 (PR.pdu_words.f KF (l0.drop 1) = some L)) (hL : 2 ≤ L.length) (ha1 : rd L 0 = a1) (hx1 : rd L 1 = x1) (hx10 : 0 ≤ x1) (hx11 : x1 ≤ 65535) : Calls Try.prog 34 #[.slice A0 l0.length c0] w (ParseOf w (parseG fn a1 l0 L)) := by
 have hu24 := Try.underlying24
 have HR0 := Aside0.mk hr0
 have HC0 := Aside0.mk hc0
 have HL := Aside0.mk hL
 have HFN := Aside0.mk hfn
 have HA1 := Aside0.mk ha1
 have HX1 := Aside0.mk hx1
 have H5 := Aside0.mk h5
 have HL0 := Aside0.mk hl0
 have HBY := Aside0.mk hby
 have HK := Aside0.mk hK
 obtain ⟨ad, ead, hx0⟩ := Kd.at_int hr0 0 (by omega) (by omega)
 cases ead
 rw [show ((0 : Int)).toNat = 0 from rfl, Addr.add_zero', hfn] at hx0
 have HX0 := Aside0.mk hx0
 obtain ⟨D1, lt1, d1, hlt1, hcut1, hV1, hd1⟩ := cut_u8 w (some ad) c0 l0 1 (by omega) (by omega) hc0 hr0
 have HV1 := Aside0.mk hV1
 have HD1 := Aside0.mk hd1
 have fL1 : Aside0 (PR.pdu_words.f KF lt1 = some L) := ⟨by rw [hlt1]; exact fL.out⟩
 clear hV1 hd1 hlt1
 have HB0 := Aside0.mk (Below.refl w.heap.size w)
 have h5b : decide ((l0.length : Int) < 5) = false := decide_eq_false (by omega)
 have h0b : decide (0 < (l0.length : Int)) = true := decide_eq_true (by omega)
 have h1b : decide (1 ≤ (l0.length : Int)) = true := decide_eq_true (by omega)
 have qi : (0 < l0.length) = True := eq_true (by omega)
 clear hr0 hc0 hL hfn ha1 hx1 hx0 h5 fL hl0 hby hK
 have tk1 := Aside0.mk trivial
 go_enter Try.func34, Try.ntmps34
 go_upto_block 0 with (first | ((with_reducible refine gate_dst (N := 2) rfl ?_); refine bx_ (N := 2) (cs := #[.int .i64 0, .int .i64 0, .int .i64 0, .slice none 0 0, .int .i64 0, .int .i64 0, .int .i64 0]) (t := 24) ?_; intro gb2 hg w3 hbox hb; have GE2 : Aside0 (w.heap.size ≤ gb2) := Aside0.mk (by rw [hg]; exact (below_size (by repeat (first | (with_reducible first | exact HB0.out | apply below_alloc | apply pw_below_drewN | apply below_drew1 | refine below_set ?_ GE2.out | refine below_set ?_ GE4.out | refine below_set ?_ GEL.out) | exact HB0.out)))); have HBn := Aside0.mk (below_step (by repeat (first | (with_reducible first | exact HB0.out | apply below_alloc | apply pw_below_drewN | apply below_drew1 | refine below_set ?_ GE2.out | refine below_set ?_ GE4.out | refine below_set ?_ GEL.out) | exact HB0.out)) hb); have BK2 := Aside0.mk hbox; clear HB0 hbox; have HB0 := HBn; clear HBn; have hx0 : w3.cell? ad = some (.int .u8 fn) := (HB0.out.cell (World.block_lt_of_cell? w _ HX0.out)).trans HX0.out; clear hb hg) | ((with_reducible refine gate_dst (N := 4) rfl ?_); refine bx_ (N := 4) (cs := #[.int .i64 0, .int .i64 0, .int .i64 0, .slice none 0 0, .int .i64 0, .int .i64 0, .int .i64 0]) (t := 24) ?_; intro gb4 hg w4 hbox hb; have GE4 : Aside0 (w.heap.size ≤ gb4) := Aside0.mk (by rw [hg]; exact (below_size (by repeat (first | (with_reducible first | exact HB0.out | apply below_alloc | apply pw_below_drewN | apply below_drew1 | refine below_set ?_ GE2.out | refine below_set ?_ GE4.out | refine below_set ?_ GEL.out) | exact HB0.out)))); have BKn := Aside0.mk (blk_below (g := gb2) (bk_ BK2) hb); have NB24 : Aside0 (gb2 ≠ gb4) := Aside0.mk (by have := blk_lt (by exact BK2.out); omega); have NB42 : Aside0 (gb4 ≠ gb2) := Aside0.mk (fun e => NB24.out e.symm); clear BK2; have BK2 := BKn; clear BKn; have HBn := Aside0.mk (below_step (by repeat (first | (with_reducible first | exact HB0.out | apply below_alloc | apply pw_below_drewN | apply below_drew1 | refine below_set ?_ GE2.out | refine below_set ?_ GE4.out | refine below_set ?_ GEL.out) | exact HB0.out)) hb); have BK4 := Aside0.mk hbox; clear HB0 hbox; have HB0 := HBn; clear HBn; refine cz7_ BK4.out ?_; intro hcz4_0 hcz4_1 hcz4_2 hcz4_3 hcz4_4 hcz4_5 hcz4_6 hfz4_0 hfz4_1 hfz4_2 hfz4_3 hfz4_4 hfz4_5 hfz4_6; clear hb hg) | (go_at_call 59; have _t := tk1; refine (PR.pdu_words.calls KF D1 d1 lt1 L _ (Kd.C_below HV1.out (by repeat (first | (with_reducible first | exact HB0.out | apply below_alloc | apply pw_below_drewN | apply below_drew1 | refine below_set ?_ GE2.out | refine below_set ?_ GE4.out | refine below_set ?_ GEL.out) | exact HB0.out))) HD1.out fL1.out).mono ?_; rintro e w5 ⟨vL, rfl, HRL, HBc⟩; have BK4n : Aside0 (w5.heap[gb4]? = some (.cells #[.int .i64 fn, .int .i64 0, .int .i64 0, .slice none 0 0, .int .i64 0, .int .i64 0, .int .i64 0] 24 (0, 0))) := Aside0.mk (blk_below (g := gb4) (by (with_reducible repeat (first | refine blk_drewN ?_ _ | refine blk_drew ?_ | refine blk_alloc ?_ _)); refine blk_put (cs := #[.int .i64 fn, .int .i64 0, .int .i64 0, .slice none 0 0, .int .i64 0, .int .i64 0, .int .i64 0]) ?_ 6 _ rfl; (with_reducible repeat (first | refine blk_drewN ?_ _ | refine blk_drew ?_ | refine blk_alloc ?_ _)); refine blk_put (cs := #[.int .i64 fn, .int .i64 0, .int .i64 0, .slice none 0 0, .int .i64 0, .int .i64 0, .int .i64 0]) ?_ 5 _ rfl; (with_reducible repeat (first | refine blk_drewN ?_ _ | refine blk_drew ?_ | refine blk_alloc ?_ _)); refine blk_put (cs := #[.int .i64 fn, .int .i64 0, .int .i64 0, .slice none 0 0, .int .i64 0, .int .i64 0, .int .i64 0]) ?_ 4 _ rfl; (with_reducible repeat (first | refine blk_drewN ?_ _ | refine blk_drew ?_ | refine blk_alloc ?_ _)); refine blk_put (cs := #[.int .i64 fn, .int .i64 0, .int .i64 0, .slice none 0 0, .int .i64 0, .int .i64 0, .int .i64 0]) ?_ 3 _ rfl; (with_reducible repeat (first | refine blk_drewN ?_ _ | refine blk_drew ?_ | refine blk_alloc ?_ _)); refine blk_put (cs := #[.int .i64 fn, .int .i64 0, .int .i64 0, .slice none 0 0, .int .i64 0, .int .i64 0, .int .i64 0]) ?_ 2 _ rfl; (with_reducible repeat (first | refine blk_drewN ?_ _ | refine blk_drew ?_ | refine blk_alloc ?_ _)); refine blk_put (cs := #[.int .i64 fn, .int .i64 0, .int .i64 0, .slice none 0 0, .int .i64 0, .int .i64 0, .int .i64 0]) ?_ 1 _ rfl; (with_reducible repeat (first | refine blk_drewN ?_ _ | refine blk_drew ?_ | refine blk_alloc ?_ _)); refine blk_put (cs := #[.int .i64 0, .int .i64 0, .int .i64 0, .slice none 0 0, .int .i64 0, .int .i64 0, .int .i64 0]) ?_ 0 _ rfl; (with_reducible repeat (first | refine blk_drewN ?_ _ | refine blk_drew ?_ | refine blk_alloc ?_ _)); exact BK4.out) HBc); have BK2n : Aside0 (w5.heap[gb2]? = some (.cells #[.int .i64 0, .int .i64 0, .int .i64 0, .slice none 0 0, .int .i64 0, .int .i64 0, .int .i64 0] 24 (0, 0))) := Aside0.mk (blk_below (g := gb2) (by (with_reducible repeat (first | refine blk_drewN ?_ _ | refine blk_drew ?_ | refine blk_alloc ?_ _)); refine blk_far ?_ NB24.out _; (with_reducible repeat (first | refine blk_drewN ?_ _ | refine blk_drew ?_ | refine blk_alloc ?_ _)); refine blk_far ?_ NB24.out _; (with_reducible repeat (first | refine blk_drewN ?_ _ | refine blk_drew ?_ | refine blk_alloc ?_ _)); refine blk_far ?_ NB24.out _; (with_reducible repeat (first | refine blk_drewN ?_ _ | refine blk_drew ?_ | refine blk_alloc ?_ _)); refine blk_far ?_ NB24.out _; (with_reducible repeat (first | refine blk_drewN ?_ _ | refine blk_drew ?_ | refine blk_alloc ?_ _)); refine blk_far ?_ NB24.out _; (with_reducible repeat (first | refine blk_drewN ?_ _ | refine blk_drew ?_ | refine blk_alloc ?_ _)); refine blk_far ?_ NB24.out _; (with_reducible repeat (first | refine blk_drewN ?_ _ | refine blk_drew ?_ | refine blk_alloc ?_ _)); refine blk_far ?_ NB24.out _; (with_reducible repeat (first | refine blk_drewN ?_ _ | refine blk_drew ?_ | refine blk_alloc ?_ _)); exact BK2.out) HBc); have hg4 := blk_lt BK4.out; have hg2 := blk_lt BK2.out; have HBn := Aside0.mk (below_step (by repeat (first | (with_reducible first | exact HB0.out | apply below_alloc | apply pw_below_drewN | apply below_drew1 | refine below_set ?_ GE2.out | refine below_set ?_ GE4.out | refine below_set ?_ GEL.out) | exact HB0.out)) HBc); skip; obtain ⟨gL, cL, rfl, hgL, hgL2, _⟩ := Kd.R_form HRL (by have := HL.out; omega); simp only [World.setCell, Array.size_modify] at hgL; have hbw := below_size HB0.out; have GEL : Aside0 (w.heap.size ≤ gL) := ⟨by omega⟩; have NB4L : Aside0 (gb4 ≠ gL) := ⟨by omega⟩; have NBL4 : Aside0 (gL ≠ gb4) := ⟨by omega⟩; have NB2L : Aside0 (gb2 ≠ gL) := ⟨by omega⟩; have NBL2 : Aside0 (gL ≠ gb2) := ⟨by omega⟩; have G2L : Aside0 (gb2 < gL) := ⟨by omega⟩; have G4L : Aside0 (gb4 < gL) := ⟨by omega⟩; have HCL : Aside0 (L.length ≤ cL) := ⟨(Kd.R_reads' HRL).2.1⟩; have HVL := Aside0.mk HRL; clear HB0 BK2 BK4; have HB0 := HBn; have BK2 := BK2n; have BK4 := BK4n; clear HBn BK2n BK4n HRL HBc hbw hg4 hg2 hgL hgL2 hx0; clear hcz4_0 hfz4_0 hcz4_1 hfz4_1 hcz4_2 hfz4_2 hcz4_3 hfz4_3 hcz4_4 hfz4_4 hcz4_5 hfz4_5 hcz4_6 hfz4_6; clear tk1 _t; have hnb := NB4L.out; have hnc := NBL4.out; refine cz7_ BK4.out ?_; intro hcz5_0 hcz5_1 hcz5_2 hcz5_3 hcz5_4 hcz5_5 hcz5_6 hfz5_0 hfz5_1 hfz5_2 hfz5_3 hfz5_4 hfz5_5 hfz5_6; have hcL0 : w5.cell? ⟨gL, 0, none⟩ = some (.int .i64 a1) := (Kd.R_celln (d := 0) HVL.out 0 (by omega) (by have := HL.out; omega)).1.trans (by show some (Value.int .i64 (rd L 0)) = _; rw [HA1.out]); have hcL1 : w5.cell? ⟨gL, 1, none⟩ = some (.int .i64 x1) := (Kd.R_celln (d := 0) HVL.out 1 (by omega) (by have := HL.out; omega)).1.trans (by show some (Value.int .i64 (rd L 1)) = _; rw [HX1.out]); have hfL1 : w5.frozen? ⟨gL, 1, none⟩ = false := (Kd.R_celln (d := 0) HVL.out 1 (by omega) (by have := HL.out; omega)).2; have hp0 : (0 : Int) < (L.length : Int) := (by have := HL.out; omega); have hp1 : (1 : Int) < (L.length : Int) := (by have := HL.out; omega); have hpc : (2 : Int) ≤ (cL : Int) := (by have := HL.out; have := HCL.out; omega); have hqL : decide (0 < (L.length : Int)) = true := decide_eq_true (by have := HL.out; omega); have hqL1 : decide (1 < (L.length : Int)) = true := decide_eq_true (by have := HL.out; omega); have hqi0 : (0 < L.length) = True := eq_true (by have := HL.out; omega); have hqi1 : (1 < L.length) = True := eq_true (by have := HL.out; omega)))
 go_cut [] (fun wc => ∃ (a2 : Int) (vs : List Int) (a4 a5 a6 : Int) (A : Option Addr) (c : Nat), Aside0 (cand fn l0 L = (a2, vs, a4, a5, a6)) ∧ Aside0 (wc.heap[gb2]? = some (.cells #[.int .i64 0, .int .i64 0, .int .i64 0, .slice none 0 0, .int .i64 0, .int .i64 0, .int .i64 0] 24 (0, 0))) ∧ Aside0 (wc.heap[gb4]? = some (.cells #[.int .i64 fn, .int .i64 a1, .int .i64 a2, .slice A vs.length c, .int .i64 a4, .int .i64 a5, .int .i64 a6] 24 (0, 0))) ∧ Aside0 (vs.length ≤ c) ∧ Aside0 (Kd.F (Kd.int .i64) wc (fun k => k ≠ gb2) A vs.length vs) ∧ Aside0 (Below w.heap.size w wc))
 case first =>
  by_cases c5 : fn = 5
  ·subst c5
   go_wp2_with (fail)
   go_meet
   case rel => exact ⟨0, [x1 / 65280], 0, 0, 0, some ⟨gL, 1, none⟩, cL - 1, ⟨by unfold cand; rw [if_pos rfl, HX1.out]⟩, ⟨by (with_reducible repeat (first | refine blk_drewN ?_ _ | refine blk_drew ?_ | refine blk_alloc ?_ _)); refine blk_far ?_ NB24.out _; (with_reducible repeat (first | refine blk_drewN ?_ _ | refine blk_drew ?_ | refine blk_alloc ?_ _)); refine blk_far ?_ NB2L.out _; (with_reducible repeat (first | refine blk_drewN ?_ _ | refine blk_drew ?_ | refine blk_alloc ?_ _)); refine blk_far ?_ NB24.out _; (with_reducible repeat (first | refine blk_drewN ?_ _ | refine blk_drew ?_ | refine blk_alloc ?_ _)); exact BK2.out⟩, ⟨by (with_reducible repeat (first | refine blk_drewN ?_ _ | refine blk_drew ?_ | refine blk_alloc ?_ _)); refine blk_put (cs := #[.int .i64 5, .int .i64 a1, .int .i64 0, .slice none 0 0, .int .i64 0, .int .i64 0, .int .i64 0]) ?_ 3 _ rfl; (with_reducible repeat (first | refine blk_drewN ?_ _ | refine blk_drew ?_ | refine blk_alloc ?_ _)); refine blk_far ?_ NB4L.out _; (with_reducible repeat (first | refine blk_drewN ?_ _ | refine blk_drew ?_ | refine blk_alloc ?_ _)); refine blk_put (cs := #[.int .i64 5, .int .i64 0, .int .i64 0, .slice none 0 0, .int .i64 0, .int .i64 0, .int .i64 0]) ?_ 1 _ rfl; (with_reducible repeat (first | refine blk_drewN ?_ _ | refine blk_drew ?_ | refine blk_alloc ?_ _)); exact BK4.out⟩, ⟨by have := HL.out; have := HCL.out; simp; omega⟩, ⟨by refine F_cell1 ?_ NBL2.out; rw [cell_far (p := ⟨gb4, 3, none⟩) (a := ⟨gL, 1, none⟩) NBL4.out]; exact (cell_set_self (by rw [cell_far (p := ⟨gb4, 1, none⟩) (a := ⟨gL, 1, none⟩) NBL4.out]; exact hcL1))⟩, ⟨by repeat (first | (with_reducible first | exact HB0.out | apply below_alloc | apply pw_below_drewN | apply below_drew1 | refine below_set ?_ GE2.out | refine below_set ?_ GE4.out | refine below_set ?_ GEL.out) | exact HB0.out)⟩⟩
  have hb5 : (fn == 5) = false := beq_eq_false_iff_ne.2 c5
  by_cases c6 : fn = 6
  ·subst c6
   go_wp2_with (fail)
   go_meet
   case rel => exact ⟨0, [x1], 0, 0, 0, some ⟨gL, 1, none⟩, cL - 1, ⟨by unfold cand; rw [if_neg (by decide), if_pos rfl, HX1.out]⟩, ⟨by (with_reducible repeat (first | refine blk_drewN ?_ _ | refine blk_drew ?_ | refine blk_alloc ?_ _)); refine blk_far ?_ NB24.out _; (with_reducible repeat (first | refine blk_drewN ?_ _ | refine blk_drew ?_ | refine blk_alloc ?_ _)); refine blk_far ?_ NB24.out _; (with_reducible repeat (first | refine blk_drewN ?_ _ | refine blk_drew ?_ | refine blk_alloc ?_ _)); exact BK2.out⟩, ⟨by (with_reducible repeat (first | refine blk_drewN ?_ _ | refine blk_drew ?_ | refine blk_alloc ?_ _)); refine blk_put (cs := #[.int .i64 6, .int .i64 a1, .int .i64 0, .slice none 0 0, .int .i64 0, .int .i64 0, .int .i64 0]) ?_ 3 _ rfl; (with_reducible repeat (first | refine blk_drewN ?_ _ | refine blk_drew ?_ | refine blk_alloc ?_ _)); refine blk_put (cs := #[.int .i64 6, .int .i64 0, .int .i64 0, .slice none 0 0, .int .i64 0, .int .i64 0, .int .i64 0]) ?_ 1 _ rfl; (with_reducible repeat (first | refine blk_drewN ?_ _ | refine blk_drew ?_ | refine blk_alloc ?_ _)); exact BK4.out⟩, ⟨by have := HL.out; have := HCL.out; simp; omega⟩, ⟨by refine F_cell1 ?_ NBL2.out; rw [cell_far (p := ⟨gb4, 3, none⟩) (a := ⟨gL, 1, none⟩) NBL4.out, cell_far (p := ⟨gb4, 1, none⟩) (a := ⟨gL, 1, none⟩) NBL4.out]; exact hcL1⟩, ⟨by repeat (first | (with_reducible first | exact HB0.out | apply below_alloc | apply pw_below_drewN | apply below_drew1 | refine below_set ?_ GE2.out | refine below_set ?_ GE4.out | refine below_set ?_ GEL.out) | exact HB0.out)⟩⟩
  have hb6 : (fn == 6) = false := beq_eq_false_iff_ne.2 c6
  by_cases c22 : fn = 22
  ·subst c22
   by_cases h3 : 2 < L.length
   ·have hcL2 : w5.cell? ⟨gL, 2, none⟩ = some (.int .i64 (rd L 2)) := (Kd.R_celln (d := 0) HVL.out 2 (by omega) (by omega)).1
    have hp2 : (2 : Int) < (L.length : Int) := by omega
    have hp2b : decide ((2 : Int) < (L.length : Int)) = true := decide_eq_true hp2
    have hqi2 : (2 < L.length) = True := eq_true h3
    have H3 := Aside0.mk h3
    clear h3
    go_wp2_with (fail)
    go_meet
    case rel => exact ⟨0, [], 0, x1, rd L 2, none, 0, ⟨by unfold cand; rw [if_neg (by decide), if_neg (by decide), if_pos rfl, HX1.out, if_pos H3.out]⟩, ⟨by (with_reducible repeat (first | refine blk_drewN ?_ _ | refine blk_drew ?_ | refine blk_alloc ?_ _)); refine blk_far ?_ NB24.out _; (with_reducible repeat (first | refine blk_drewN ?_ _ | refine blk_drew ?_ | refine blk_alloc ?_ _)); refine blk_far ?_ NB24.out _; (with_reducible repeat (first | refine blk_drewN ?_ _ | refine blk_drew ?_ | refine blk_alloc ?_ _)); refine blk_far ?_ NB24.out _; (with_reducible repeat (first | refine blk_drewN ?_ _ | refine blk_drew ?_ | refine blk_alloc ?_ _)); exact BK2.out⟩, ⟨by (with_reducible repeat (first | refine blk_drewN ?_ _ | refine blk_drew ?_ | refine blk_alloc ?_ _)); refine blk_put (cs := #[.int .i64 22, .int .i64 a1, .int .i64 0, .slice none 0 0, .int .i64 0, .int .i64 x1, .int .i64 0]) ?_ 6 _ rfl; (with_reducible repeat (first | refine blk_drewN ?_ _ | refine blk_drew ?_ | refine blk_alloc ?_ _)); refine blk_put (cs := #[.int .i64 22, .int .i64 a1, .int .i64 0, .slice none 0 0, .int .i64 0, .int .i64 0, .int .i64 0]) ?_ 5 _ rfl; (with_reducible repeat (first | refine blk_drewN ?_ _ | refine blk_drew ?_ | refine blk_alloc ?_ _)); refine blk_put (cs := #[.int .i64 22, .int .i64 0, .int .i64 0, .slice none 0 0, .int .i64 0, .int .i64 0, .int .i64 0]) ?_ 1 _ rfl; (with_reducible repeat (first | refine blk_drewN ?_ _ | refine blk_drew ?_ | refine blk_alloc ?_ _)); exact BK4.out⟩, ⟨by simp⟩, ⟨F_nil' _ _⟩, ⟨by repeat (first | (with_reducible first | exact HB0.out | apply below_alloc | apply pw_below_drewN | apply below_drew1 | refine below_set ?_ GE2.out | refine below_set ?_ GE4.out | refine below_set ?_ GEL.out) | exact HB0.out)⟩⟩
   ·have hp2b : decide ((2 : Int) < (L.length : Int)) = false := decide_eq_false (by omega)
    have hp2 : (L.length : Int) ≤ 2 := by omega
    have H3 := Aside0.mk h3
    clear h3
    go_wp2_with (fail)
    go_meet
    case rel => exact ⟨0, [], 0, x1, 0, none, 0, ⟨by unfold cand; rw [if_neg (by decide), if_neg (by decide), if_pos rfl, HX1.out, if_neg H3.out]⟩, ⟨by (with_reducible repeat (first | refine blk_drewN ?_ _ | refine blk_drew ?_ | refine blk_alloc ?_ _)); refine blk_far ?_ NB24.out _; (with_reducible repeat (first | refine blk_drewN ?_ _ | refine blk_drew ?_ | refine blk_alloc ?_ _)); refine blk_far ?_ NB24.out _; (with_reducible repeat (first | refine blk_drewN ?_ _ | refine blk_drew ?_ | refine blk_alloc ?_ _)); exact BK2.out⟩, ⟨by (with_reducible repeat (first | refine blk_drewN ?_ _ | refine blk_drew ?_ | refine blk_alloc ?_ _)); refine blk_put (cs := #[.int .i64 22, .int .i64 a1, .int .i64 0, .slice none 0 0, .int .i64 0, .int .i64 0, .int .i64 0]) ?_ 5 _ rfl; (with_reducible repeat (first | refine blk_drewN ?_ _ | refine blk_drew ?_ | refine blk_alloc ?_ _)); refine blk_put (cs := #[.int .i64 22, .int .i64 0, .int .i64 0, .slice none 0 0, .int .i64 0, .int .i64 0, .int .i64 0]) ?_ 1 _ rfl; (with_reducible repeat (first | refine blk_drewN ?_ _ | refine blk_drew ?_ | refine blk_alloc ?_ _)); exact BK4.out⟩, ⟨by simp⟩, ⟨F_nil' _ _⟩, ⟨by repeat (first | (with_reducible first | exact HB0.out | apply below_alloc | apply pw_below_drewN | apply below_drew1 | refine below_set ?_ GE2.out | refine below_set ?_ GE4.out | refine below_set ?_ GEL.out) | exact HB0.out)⟩⟩
  have hb22 : (fn == 22) = false := beq_eq_false_iff_ne.2 c22
  by_cases c15 : fn = 15
  ·subst c15
   obtain ⟨D6, lt6, d6, hlt6, hcut6, hV6, hd6⟩ := cut_u8 w (some ad) c0 l0 (min 6 (l0.length : Int)) (by omega) (by omega) HC0.out HR0.out
   have HLT6 := Aside0.mk hlt6
   have HV6 := Aside0.mk hV6
   have HD6 := Aside0.mk hd6
   clear hV6 hd6 hlt6
   obtain ⟨vs, hvs⟩ : ∃ vs, vs = unp lt6 x1 := ⟨_, rfl⟩
   have fU : Aside0 (PR.wire_Unpack.f KF lt6 x1 = some (vs, if x1 ≤ 8 * (lt6.length : Int) then 0 else 7)) := ⟨by rw [hvs]; exact unp_f lt6 (by rw [HLT6.out]; exact bytes_drop HBY.out _) x1 (by omega) (by rw [HLT6.out, List.length_drop]; have := HL0.out; omega) KF (by have := HK.out; omega)⟩
   generalize (if x1 ≤ 8 * (lt6.length : Int) then (0 : Int) else 7) = eu at fU
   have HVS := Aside0.mk hvs
   clear hvs
   go_wp2_with (fail)
   have BK4n : Aside0 (((w5.setCell ⟨gb4, 1, none⟩ (.int .i64 a1)).setCell ⟨gb4, 2, none⟩ (.int .i64 x1)).drew.heap[gb4]? = some (.cells #[.int .i64 15, .int .i64 a1, .int .i64 x1, .slice none 0 0, .int .i64 0, .int .i64 0, .int .i64 0] 24 (0, 0))) := Aside0.mk (blk_drew (by (with_reducible repeat (first | refine blk_drewN ?_ _ | refine blk_drew ?_ | refine blk_alloc ?_ _)); refine blk_put (cs := #[.int .i64 15, .int .i64 a1, .int .i64 0, .slice none 0 0, .int .i64 0, .int .i64 0, .int .i64 0]) ?_ 2 _ rfl; (with_reducible repeat (first | refine blk_drewN ?_ _ | refine blk_drew ?_ | refine blk_alloc ?_ _)); refine blk_put (cs := #[.int .i64 15, .int .i64 0, .int .i64 0, .slice none 0 0, .int .i64 0, .int .i64 0, .int .i64 0]) ?_ 1 _ rfl; (with_reducible repeat (first | refine blk_drewN ?_ _ | refine blk_drew ?_ | refine blk_alloc ?_ _)); exact BK4.out))
   have BK2n : Aside0 (((w5.setCell ⟨gb4, 1, none⟩ (.int .i64 a1)).setCell ⟨gb4, 2, none⟩ (.int .i64 x1)).drew.heap[gb2]? = some (.cells #[.int .i64 0, .int .i64 0, .int .i64 0, .slice none 0 0, .int .i64 0, .int .i64 0, .int .i64 0] 24 (0, 0))) := Aside0.mk (blk_drew (by (with_reducible repeat (first | refine blk_drewN ?_ _ | refine blk_drew ?_ | refine blk_alloc ?_ _)); refine blk_far ?_ NB24.out _; (with_reducible repeat (first | refine blk_drewN ?_ _ | refine blk_drew ?_ | refine blk_alloc ?_ _)); refine blk_far ?_ NB24.out _; (with_reducible repeat (first | refine blk_drewN ?_ _ | refine blk_drew ?_ | refine blk_alloc ?_ _)); exact BK2.out))
   have HBn : Aside0 (Below w.heap.size w ((w5.setCell ⟨gb4, 1, none⟩ (.int .i64 a1)).setCell ⟨gb4, 2, none⟩ (.int .i64 x1)).drew) := Aside0.mk (by repeat (first | (with_reducible first | exact HB0.out | apply below_alloc | apply pw_below_drewN | apply below_drew1 | refine below_set ?_ GE2.out | refine below_set ?_ GE4.out | refine below_set ?_ GEL.out) | exact HB0.out))
   clear BK4 BK2 HB0 hcz5_0 hfz5_0 hcz5_1 hfz5_1 hcz5_2 hfz5_2 hcz5_3 hfz5_3 hcz5_4 hfz5_4 hcz5_5 hfz5_5 hcz5_6 hfz5_6
   have BK4 := BK4n
   have BK2 := BK2n
   have HB0 := HBn
   clear BK4n BK2n HBn
   refine start_ (n := 10) (S := fun W => W.cell? ⟨gb4, 2, none⟩ = some (.int .i64 x1)) (ds := []) #[false, false, false, false, false, false, false, false, false, false] (by kernel_rfl) rfl rfl ?_ (fun hHeld => ?_)
   ·(first | exact (blk_cell (bk_ BK4) 2).trans rfl | exact (blk_cell (t := 24) (cs := #[.int .i64 15, .int .i64 a1, .int .i64 x1, .slice AV vs.length cV, .int .i64 0, .int .i64 0, .int .i64 0]) (by (with_reducible repeat (first | refine blk_drewN ?_ _ | refine blk_drew ?_ | refine blk_alloc ?_ _)); refine blk_put (cs := #[.int .i64 15, .int .i64 a1, .int .i64 x1, .slice none 0 0, .int .i64 0, .int .i64 0, .int .i64 0]) ?_ 3 _ rfl; (with_reducible repeat (first | refine blk_drewN ?_ _ | refine blk_drew ?_ | refine blk_alloc ?_ _)); exact BK4.out) 2).trans rfl)
   generalize ((w5.setCell ⟨gb4, 1, none⟩ (.int .i64 a1)).setCell ⟨gb4, 2, none⟩ (.int .i64 x1)).drew = w6 at BK4 BK2 HB0 hHeld ⊢
   refine pure_ (i := 0) (N := some 62) (v := ?_) (a' := ?_) #[true, false, false, false, false, false, false, false, false, false] rfl rfl (by kernel_rfl) (fun _ _ _ h => h) (Or.inl ⟨by rfl, ?_⟩) ?_ ?_
   rotate_left
   ·intro w'
    go_simp
    with_reducible rfl
   rotate_left
   ·simp only [Act.put, List.setIfInBounds_toArray, List.set_cons_zero, List.set_cons_succ, i64_w, i32_w]
    rfl
   refine pure_ (i := 2) (N := some 64) (v := ?_) (a' := ?_) #[true, false, true, false, false, false, false, false, false, false] rfl rfl (by kernel_rfl) (fun _ _ _ h => h) (Or.inl ⟨by rfl, ?_⟩) ?_ ?_
   rotate_left
   ·intro w'
    go_simp
    with_reducible rfl
   rotate_left
   ·simp only [Act.put, List.setIfInBounds_toArray, List.set_cons_zero, List.set_cons_succ, i64_w, i32_w]
    rfl
   refine take_ (i := 3) (N := some 65) (v := ?_) (a' := ?_) #[true, false, true, true, false, false, false, false, false, false] rfl rfl (by kernel_rfl) (fun _ _ _ h => h) (Or.inl ⟨by rfl, ?_⟩) hHeld ?_ ?_
   rotate_left
   ·rintro w' hS_
    go_simp
    with_reducible rfl
   rotate_left
   ·simp only [Act.put, List.setIfInBounds_toArray, List.set_cons_zero, List.set_cons_succ, i64_w, i32_w]
    rfl
   refine one_ (i := 1) (N := some 63) #[true, true, true, true, false, false, false, false, false, false] rfl rfl (by kernel_rfl) (by decide) (fun K hK => ?_)
   refine goes_ Try.func61 (by kernel_rfl) rfl #[.slice (some ad) l0.length c0, .int .i64 6] (by rfl) rfl rfl (by (try simp only [List.map_toArray, List.map_cons, List.map_nil]); first | done | rfl) ?_
   refine (pdu_from.calls (some ad) c0 l0 6 _ (.slice D6 lt6.length d6) _ hcut6 rfl).mono ?_
   rintro e w' ⟨rfl, ⟨nd, rfl⟩⟩
   refine ⟨_, rfl, ?_⟩
   refine hK.out _ _ ?_ (fun hHeld => ?_)
   ·(first | exact (blk_cell (bk_ BK4) 2).trans rfl | exact (blk_cell (t := 24) (cs := #[.int .i64 15, .int .i64 a1, .int .i64 x1, .slice AV vs.length cV, .int .i64 0, .int .i64 0, .int .i64 0]) (by (with_reducible repeat (first | refine blk_drewN ?_ _ | refine blk_drew ?_ | refine blk_alloc ?_ _)); refine blk_put (cs := #[.int .i64 15, .int .i64 a1, .int .i64 x1, .slice none 0 0, .int .i64 0, .int .i64 0, .int .i64 0]) ?_ 3 _ rfl; (with_reducible repeat (first | refine blk_drewN ?_ _ | refine blk_drew ?_ | refine blk_alloc ?_ _)); exact BK4.out) 2).trans rfl)
   clear hK K
   refine norm_ (a' := ?_) ?_ ?_
   rotate_left
   ·show Act.put _ (some 63) _ = _
    simp only [Act.put, List.setIfInBounds_toArray, List.set_cons_zero, List.set_cons_succ, i64_w, i32_w]
    rfl
   refine one_ (i := 4) (N := some 66) #[true, true, true, true, true, false, false, false, false, false] rfl rfl (by kernel_rfl) (by decide) (fun K hK => ?_)
   refine goes_ Try.func60 (by kernel_rfl) rfl #[.slice D6 lt6.length d6, .int .i64 x1] (by rfl) rfl rfl (by (try simp only [List.map_toArray, List.map_cons, List.map_nil]); first | done | rfl) ?_
   refine (PR.wire_Unpack.calls KF D6 d6 lt6 x1 vs eu _ (Kd.C_below HV6.out (by repeat (first | (with_reducible first | exact HB0.out | apply below_alloc | apply pw_below_drewN | apply below_drew1 | refine below_set ?_ GE2.out | refine below_set ?_ GE4.out | refine below_set ?_ GEL.out) | exact HB0.out))) HD6.out fU.out).mono ?_
   rintro e w7 ⟨vV, rfl, HRV, HBc⟩
   refine ⟨_, rfl, ?_⟩
   have BK4n : Aside0 (w7.heap[gb4]? = some (.cells #[.int .i64 15, .int .i64 a1, .int .i64 x1, .slice none 0 0, .int .i64 0, .int .i64 0, .int .i64 0] 24 (0, 0))) := Aside0.mk (blk_below (g := gb4) (bk_ BK4) HBc)
   have BK2n : Aside0 (w7.heap[gb2]? = some (.cells #[.int .i64 0, .int .i64 0, .int .i64 0, .slice none 0 0, .int .i64 0, .int .i64 0, .int .i64 0] 24 (0, 0))) := Aside0.mk (blk_below (g := gb2) (bk_ BK2) HBc)
   have HBn := Aside0.mk (below_step (by repeat (first | (with_reducible first | exact HB0.out | apply below_alloc | apply pw_below_drewN | apply below_drew1 | refine below_set ?_ GE2.out | refine below_set ?_ GE4.out | refine below_set ?_ GEL.out) | exact HB0.out)) HBc)
   obtain ⟨AV, cV, rfl⟩ := Kd.R_slice HRV
   have HVV : Aside0 ((Kd.int .i64).R 3 w7 w6.heap.size (fun _ => True) (.slice AV vs.length cV) vs) := ⟨Kd.R_lower HRV (by simp only [size_drewN', size_drew', size_set', size_alloc']; omega)⟩
   have G2 : Aside0 (gb2 < w6.heap.size) := ⟨blk_lt BK2.out⟩
   have G4 : Aside0 (gb4 < w6.heap.size) := ⟨blk_lt BK4.out⟩
   clear HB0 BK2 BK4 HRV HBc
   have HB0 := HBn
   have BK2 := BK2n
   have BK4 := BK4n
   clear HBn BK2n BK4n
   refine hK.out _ _ ?_ (fun hHeld => ?_)
   ·(first | exact (blk_cell (bk_ BK4) 2).trans rfl | exact (blk_cell (t := 24) (cs := #[.int .i64 15, .int .i64 a1, .int .i64 x1, .slice AV vs.length cV, .int .i64 0, .int .i64 0, .int .i64 0]) (by (with_reducible repeat (first | refine blk_drewN ?_ _ | refine blk_drew ?_ | refine blk_alloc ?_ _)); refine blk_put (cs := #[.int .i64 15, .int .i64 a1, .int .i64 x1, .slice none 0 0, .int .i64 0, .int .i64 0, .int .i64 0]) ?_ 3 _ rfl; (with_reducible repeat (first | refine blk_drewN ?_ _ | refine blk_drew ?_ | refine blk_alloc ?_ _)); exact BK4.out) 2).trans rfl)
   clear hK K
   refine norm_ (a' := ?_) ?_ ?_
   rotate_left
   ·show Act.put _ (some 66) _ = _
    simp only [Act.put, List.setIfInBounds_toArray, List.set_cons_zero, List.set_cons_succ, i64_w, i32_w]
    rfl
   refine pure_ (i := 5) (N := some 61) (v := ?_) (a' := ?_) #[true, true, true, true, true, true, false, false, false, false] rfl rfl (by kernel_rfl) (fun _ _ _ h => h) (Or.inl ⟨by rfl, ?_⟩) ?_ ?_
   rotate_left
   ·intro w'
    go_simp
    with_reducible rfl
   rotate_left
   ·simp only [Act.put, List.setIfInBounds_toArray, List.set_cons_zero, List.set_cons_succ, i64_w, i32_w]
    rfl
   refine pure_ (i := 6) (N := some 67) (v := ?_) (a' := ?_) #[true, true, true, true, true, true, true, false, false, false] rfl rfl (by kernel_rfl) (fun _ _ _ h => h) (Or.inl ⟨by rfl, ?_⟩) ?_ ?_
   rotate_left
   ·intro w'
    go_simp
    with_reducible rfl
   rotate_left
   ·simp only [Act.put, List.setIfInBounds_toArray, List.set_cons_zero, List.set_cons_succ, i64_w, i32_w]
    rfl
   refine pure_ (i := 7) (N := some 68) (v := ?_) (a' := ?_) #[true, true, true, true, true, true, true, true, false, false] rfl rfl (by kernel_rfl) (fun _ _ _ h => h) (Or.inl ⟨by rfl, ?_⟩) ?_ ?_
   rotate_left
   ·intro w'
    go_simp
    with_reducible rfl
   rotate_left
   ·simp only [Act.put, List.setIfInBounds_toArray, List.set_cons_zero, List.set_cons_succ, i64_w, i32_w]
    rfl
   refine pure_ (i := 8) (N := some 69) (v := ?_) (a' := ?_) #[true, true, true, true, true, true, true, true, true, false] rfl rfl (by kernel_rfl) (fun _ _ _ h => h) (Or.inl ⟨by rfl, ?_⟩) ?_ ?_
   rotate_left
   ·intro w'
    go_simp
    with_reducible rfl
   rotate_left
   ·simp only [Act.put, List.setIfInBounds_toArray, List.set_cons_zero, List.set_cons_succ, i64_w, i32_w]
    rfl
   refine one_ (i := 9) (N := none) #[true, true, true, true, true, true, true, true, true, true] rfl rfl (by kernel_rfl) (by decide) (fun K hK => ?_)
   refine cz7_ BK4.out ?_; intro hcz7_0 hcz7_1 hcz7_2 hcz7_3 hcz7_4 hcz7_5 hcz7_6 hfz7_0 hfz7_1 hfz7_2 hfz7_3 hfz7_4 hfz7_5 hfz7_6
   refine skip_ (w1 := ?_) (by rfl) rfl ?_ ?_
   rotate_left
   ·go_simp
    rfl
   refine hK.out _ _ ?_ (fun hHeld => ?_)
   ·(first | exact (blk_cell (bk_ BK4) 2).trans rfl | exact (blk_cell (t := 24) (cs := #[.int .i64 15, .int .i64 a1, .int .i64 x1, .slice AV vs.length cV, .int .i64 0, .int .i64 0, .int .i64 0]) (by (with_reducible repeat (first | refine blk_drewN ?_ _ | refine blk_drew ?_ | refine blk_alloc ?_ _)); refine blk_put (cs := #[.int .i64 15, .int .i64 a1, .int .i64 x1, .slice none 0 0, .int .i64 0, .int .i64 0, .int .i64 0]) ?_ 3 _ rfl; (with_reducible repeat (first | refine blk_drewN ?_ _ | refine blk_drew ?_ | refine blk_alloc ?_ _)); exact BK4.out) 2).trans rfl)
   clear hK K
   refine done_ (by kernel_rfl) ?_
   try go_wp2
   go_meet
   case rel => exact ⟨x1, vs, 0, 0, 0, AV, cV, ⟨by unfold cand; rw [if_neg (by decide), if_neg (by decide), if_neg (by decide), if_pos rfl, HX1.out, HVS.out, HLT6.out, show (min 6 (l0.length : Int)).toNat = min 6 l0.length from by omega]⟩, ⟨by (with_reducible repeat (first | refine blk_drewN ?_ _ | refine blk_drew ?_ | refine blk_alloc ?_ _)); refine blk_far ?_ NB24.out _; (with_reducible repeat (first | refine blk_drewN ?_ _ | refine blk_drew ?_ | refine blk_alloc ?_ _)); exact BK2.out⟩, ⟨by (with_reducible repeat (first | refine blk_drewN ?_ _ | refine blk_drew ?_ | refine blk_alloc ?_ _)); refine blk_put (cs := #[.int .i64 15, .int .i64 a1, .int .i64 x1, .slice none 0 0, .int .i64 0, .int .i64 0, .int .i64 0]) ?_ 3 _ rfl; (with_reducible repeat (first | refine blk_drewN ?_ _ | refine blk_drew ?_ | refine blk_alloc ?_ _)); exact BK4.out⟩, ⟨(Kd.R_reads' HVV.out).2.1⟩, ⟨by refine Kd.F_mono (Kd.F_far (p := ⟨gb4, 3, none⟩) (F_two HVV.out G2.out G4.out) (fun k hk => hk.2) _) (fun k hk => hk.1)⟩, ⟨by repeat (first | (with_reducible first | exact HB0.out | apply below_alloc | apply pw_below_drewN | apply below_drew1 | refine below_set ?_ GE2.out | refine below_set ?_ GE4.out | refine below_set ?_ GEL.out) | exact HB0.out)⟩⟩
  have hb15 : (fn == 15) = false := beq_eq_false_iff_ne.2 c15
  by_cases c23 : fn = 23
  ·subst c23
   obtain ⟨D10, lt10, d10, hlt10, hcut10, hV10, hd10⟩ := cut_u8 w (some ad) c0 l0 (min 10 (l0.length : Int)) (by omega) (by omega) HC0.out HR0.out
   have HLT10 := Aside0.mk hlt10
   have HV10 := Aside0.mk hV10
   have HD10 := Aside0.mk hd10
   clear hV10 hd10 hlt10
   have fW : Aside0 (PR.pdu_words.f KF lt10 = some (wordsOf lt10)) := ⟨pwords_f lt10 (by rw [HLT10.out]; exact bytes_drop HBY.out _) (by rw [HLT10.out, List.length_drop]; have := HL0.out; omega) KF (by rw [HLT10.out, List.length_drop]; have := HL0.out; have := HK.out; omega)⟩
   obtain ⟨vs, hvs⟩ : ∃ vs, vs = wordsOf lt10 := ⟨_, rfl⟩
   rw [← hvs] at fW
   have HVS := Aside0.mk hvs
   clear hvs
   by_cases h3 : 2 < L.length
   ·have hcL2 : w5.cell? ⟨gL, 2, none⟩ = some (.int .i64 (rd L 2)) := (Kd.R_celln (d := 0) HVL.out 2 (by omega) (by omega)).1
    have hp2 : (2 : Int) < (L.length : Int) := by omega
    have hp2b : decide ((2 : Int) < (L.length : Int)) = true := decide_eq_true hp2
    have hqi2 : (2 < L.length) = True := eq_true h3
    have H3 := Aside0.mk h3
    clear h3
    go_wp2_with (fail)
    have BK4n : Aside0 (((w5.setCell ⟨gb4, 1, none⟩ (.int .i64 a1)).setCell ⟨gb4, 4, none⟩ (.int .i64 (rd L 2))).drew.heap[gb4]? = some (.cells #[.int .i64 23, .int .i64 a1, .int .i64 0, .slice none 0 0, .int .i64 (rd L 2), .int .i64 0, .int .i64 0] 24 (0, 0))) := Aside0.mk (blk_drew (by (with_reducible repeat (first | refine blk_drewN ?_ _ | refine blk_drew ?_ | refine blk_alloc ?_ _)); refine blk_put (cs := #[.int .i64 23, .int .i64 a1, .int .i64 0, .slice none 0 0, .int .i64 0, .int .i64 0, .int .i64 0]) ?_ 4 _ rfl; (with_reducible repeat (first | refine blk_drewN ?_ _ | refine blk_drew ?_ | refine blk_alloc ?_ _)); refine blk_put (cs := #[.int .i64 23, .int .i64 0, .int .i64 0, .slice none 0 0, .int .i64 0, .int .i64 0, .int .i64 0]) ?_ 1 _ rfl; (with_reducible repeat (first | refine blk_drewN ?_ _ | refine blk_drew ?_ | refine blk_alloc ?_ _)); exact BK4.out))
    have BK2n : Aside0 (((w5.setCell ⟨gb4, 1, none⟩ (.int .i64 a1)).setCell ⟨gb4, 4, none⟩ (.int .i64 (rd L 2))).drew.heap[gb2]? = some (.cells #[.int .i64 0, .int .i64 0, .int .i64 0, .slice none 0 0, .int .i64 0, .int .i64 0, .int .i64 0] 24 (0, 0))) := Aside0.mk (blk_drew (by (with_reducible repeat (first | refine blk_drewN ?_ _ | refine blk_drew ?_ | refine blk_alloc ?_ _)); refine blk_far ?_ NB24.out _; (with_reducible repeat (first | refine blk_drewN ?_ _ | refine blk_drew ?_ | refine blk_alloc ?_ _)); refine blk_far ?_ NB24.out _; (with_reducible repeat (first | refine blk_drewN ?_ _ | refine blk_drew ?_ | refine blk_alloc ?_ _)); exact BK2.out))
    have HBn : Aside0 (Below w.heap.size w ((w5.setCell ⟨gb4, 1, none⟩ (.int .i64 a1)).setCell ⟨gb4, 4, none⟩ (.int .i64 (rd L 2))).drew) := Aside0.mk (by repeat (first | (with_reducible first | exact HB0.out | apply below_alloc | apply pw_below_drewN | apply below_drew1 | refine below_set ?_ GE2.out | refine below_set ?_ GE4.out | refine below_set ?_ GEL.out) | exact HB0.out))
    have HLc : Aside0 (((w5.setCell ⟨gb4, 1, none⟩ (.int .i64 a1)).setCell ⟨gb4, 4, none⟩ (.int .i64 (rd L 2))).drew.cell? ⟨gL, 1, none⟩ = some (.int .i64 x1)) := ⟨(((cell_far (W := w5.setCell ⟨gb4, 1, none⟩ (.int .i64 a1)) (p := ⟨gb4, 4, none⟩) (a := ⟨gL, 1, none⟩) NBL4.out _).trans (cell_far (W := w5) (p := ⟨gb4, 1, none⟩) (a := ⟨gL, 1, none⟩) NBL4.out (.int .i64 a1)))).trans hcL1⟩
    clear BK4 BK2 HB0 hcz5_0 hfz5_0 hcz5_1 hfz5_1 hcz5_2 hfz5_2 hcz5_3 hfz5_3 hcz5_4 hfz5_4 hcz5_5 hfz5_5 hcz5_6 hfz5_6
    have BK4 := BK4n
    have BK2 := BK2n
    have HB0 := HBn
    clear BK4n BK2n HBn
    refine start_ (n := 10) (S := fun W => W.cell? ⟨gL, 1, none⟩ = some (.int .i64 x1)) (ds := []) #[false, false, false, false, false, false, false, false, false, false] (by kernel_rfl) rfl rfl ?_ (fun hHeld => ?_)
    ·(first | exact HLc.out | exact (cell_far (p := ⟨gb4, 2, none⟩) (a := ⟨gL, 1, none⟩) NBL4.out _).trans HLc.out | exact (cell_far (p := ⟨gb4, 3, none⟩) (a := ⟨gL, 1, none⟩) NBL4.out _).trans ((cell_far (p := ⟨gb4, 2, none⟩) (a := ⟨gL, 1, none⟩) NBL4.out _).trans HLc.out))
    generalize ((w5.setCell ⟨gb4, 1, none⟩ (.int .i64 a1)).setCell ⟨gb4, 4, none⟩ (.int .i64 (rd L 2))).drew = w6 at BK4 BK2 HB0 HLc hHeld ⊢
    refine pure_ (i := 0) (N := some 77) (v := ?_) (a' := ?_) #[true, false, false, false, false, false, false, false, false, false] rfl rfl (by kernel_rfl) (fun _ _ _ h => h) (Or.inl ⟨by rfl, ?_⟩) ?_ ?_
    rotate_left
    ·intro w'
     go_simp
     with_reducible rfl
    rotate_left
    ·simp only [Act.put, List.setIfInBounds_toArray, List.set_cons_zero, List.set_cons_succ, i64_w, i32_w]
     rfl
    refine take_ (i := 1) (N := some 78) (v := ?_) (a' := ?_) #[true, true, false, false, false, false, false, false, false, false] rfl rfl (by kernel_rfl) (fun _ _ _ h => h) (Or.inl ⟨by rfl, ?_⟩) hHeld ?_ ?_
    rotate_left
    ·rintro w' hS_
     go_simp
     with_reducible rfl
    rotate_left
    ·simp only [Act.put, List.setIfInBounds_toArray, List.set_cons_zero, List.set_cons_succ, i64_w, i32_w]
     rfl
    refine take_ (i := 2) (N := some 79) (v := ?_) (a' := ?_) #[true, true, true, false, false, false, false, false, false, false] rfl rfl (by kernel_rfl) (fun _ _ _ h => h) (Or.inl ⟨by rfl, ?_⟩) hHeld ?_ ?_
    rotate_left
    ·rintro w' hS_
     go_simp
     with_reducible rfl
    rotate_left
    ·simp only [Act.put, List.setIfInBounds_toArray, List.set_cons_zero, List.set_cons_succ, i64_w, i32_w]
     rfl
    refine pure_ (i := 3) (N := some 80) (v := ?_) (a' := ?_) #[true, true, true, true, false, false, false, false, false, false] rfl rfl (by kernel_rfl) (fun _ _ _ h => h) (Or.inl ⟨by rfl, ?_⟩) ?_ ?_
    rotate_left
    ·intro w'
     go_simp
     with_reducible rfl
    rotate_left
    ·simp only [Act.put, List.setIfInBounds_toArray, List.set_cons_zero, List.set_cons_succ, i64_w, i32_w]
     rfl
    refine pure_ (i := 6) (N := some 83) (v := ?_) (a' := ?_) #[true, true, true, true, false, false, true, false, false, false] rfl rfl (by kernel_rfl) (fun _ _ _ h => h) (Or.inl ⟨by rfl, ?_⟩) ?_ ?_
    rotate_left
    ·intro w'
     go_simp
     with_reducible rfl
    rotate_left
    ·simp only [Act.put, List.setIfInBounds_toArray, List.set_cons_zero, List.set_cons_succ, i64_w, i32_w]
     rfl
    refine one_ (i := 4) (N := some 81) #[true, true, true, true, true, false, true, false, false, false] rfl rfl (by kernel_rfl) (by decide) (fun K hK => ?_)
    refine goes_ Try.func61 (by kernel_rfl) rfl #[.slice (some ad) l0.length c0, .int .i64 10] (by rfl) rfl rfl (by (try simp only [List.map_toArray, List.map_cons, List.map_nil]); first | done | rfl) ?_
    refine (pdu_from.calls (some ad) c0 l0 10 _ (.slice D10 lt10.length d10) _ hcut10 rfl).mono ?_
    rintro e w' ⟨rfl, ⟨nd, rfl⟩⟩
    refine ⟨_, rfl, ?_⟩
    refine hK.out _ _ ?_ (fun hHeld => ?_)
    ·(first | exact HLc.out | exact (cell_far (p := ⟨gb4, 2, none⟩) (a := ⟨gL, 1, none⟩) NBL4.out _).trans HLc.out | exact (cell_far (p := ⟨gb4, 3, none⟩) (a := ⟨gL, 1, none⟩) NBL4.out _).trans ((cell_far (p := ⟨gb4, 2, none⟩) (a := ⟨gL, 1, none⟩) NBL4.out _).trans HLc.out))
    clear hK K
    refine norm_ (a' := ?_) ?_ ?_
    rotate_left
    ·show Act.put _ (some 81) _ = _
     simp only [Act.put, List.setIfInBounds_toArray, List.set_cons_zero, List.set_cons_succ, i64_w, i32_w]
     rfl
    refine one_ (i := 5) (N := some 82) #[true, true, true, true, true, true, true, false, false, false] rfl rfl (by kernel_rfl) (by decide) (fun K hK => ?_)
    refine goes_ Try.func59 (by kernel_rfl) rfl #[.slice D10 lt10.length d10] (by rfl) rfl rfl (by (try simp only [List.map_toArray, List.map_cons, List.map_nil]); first | done | rfl) ?_
    refine (PR.pdu_words.calls KF D10 d10 lt10 vs _ (Kd.C_below HV10.out (by repeat (first | (with_reducible first | exact HB0.out | apply below_alloc | apply pw_below_drewN | apply below_drew1 | refine below_set ?_ GE2.out | refine below_set ?_ GE4.out | refine below_set ?_ GEL.out) | exact HB0.out))) HD10.out fW.out).mono ?_
    rintro e w7 ⟨vV, rfl, HRV, HBc⟩
    refine ⟨_, rfl, ?_⟩
    have BK4n : Aside0 (w7.heap[gb4]? = some (.cells #[.int .i64 23, .int .i64 a1, .int .i64 0, .slice none 0 0, .int .i64 (rd L 2), .int .i64 0, .int .i64 0] 24 (0, 0))) := Aside0.mk (blk_below (g := gb4) (bk_ BK4) HBc)
    have BK2n : Aside0 (w7.heap[gb2]? = some (.cells #[.int .i64 0, .int .i64 0, .int .i64 0, .slice none 0 0, .int .i64 0, .int .i64 0, .int .i64 0] 24 (0, 0))) := Aside0.mk (blk_below (g := gb2) (bk_ BK2) HBc)
    have HBn := Aside0.mk (below_step (by repeat (first | (with_reducible first | exact HB0.out | apply below_alloc | apply pw_below_drewN | apply below_drew1 | refine below_set ?_ GE2.out | refine below_set ?_ GE4.out | refine below_set ?_ GEL.out) | exact HB0.out)) HBc)
    have HLn : Aside0 (w7.cell? ⟨gL, 1, none⟩ = some (.int .i64 x1)) := ⟨(HBc.cell (World.block_lt_of_cell? _ _ (show (w6.drewN nd).cell? ⟨gL, 1, none⟩ = some (.int .i64 x1) from HLc.out))).trans HLc.out⟩
    obtain ⟨AV, cV, rfl⟩ := Kd.R_slice HRV
    have HVV : Aside0 ((Kd.int .i64).R 3 w7 w6.heap.size (fun _ => True) (.slice AV vs.length cV) vs) := ⟨Kd.R_lower HRV (by simp only [size_drewN', size_drew', size_set', size_alloc']; omega)⟩
    have G2 : Aside0 (gb2 < w6.heap.size) := ⟨blk_lt BK2.out⟩
    have G4 : Aside0 (gb4 < w6.heap.size) := ⟨blk_lt BK4.out⟩
    clear HB0 BK2 BK4 HRV HBc HLc
    have HB0 := HBn
    have BK2 := BK2n
    have BK4 := BK4n
    have HLc := HLn
    clear HLn
    clear HBn BK2n BK4n
    refine hK.out _ _ ?_ (fun hHeld => ?_)
    ·(first | exact HLc.out | exact (cell_far (p := ⟨gb4, 2, none⟩) (a := ⟨gL, 1, none⟩) NBL4.out _).trans HLc.out | exact (cell_far (p := ⟨gb4, 3, none⟩) (a := ⟨gL, 1, none⟩) NBL4.out _).trans ((cell_far (p := ⟨gb4, 2, none⟩) (a := ⟨gL, 1, none⟩) NBL4.out _).trans HLc.out))
    clear hK K
    refine norm_ (a' := ?_) ?_ ?_
    rotate_left
    ·show Act.put _ (some 82) _ = _
     simp only [Act.put, List.setIfInBounds_toArray, List.set_cons_zero, List.set_cons_succ, i64_w, i32_w]
     rfl
    refine one_ (i := 7) (N := none) #[true, true, true, true, true, true, true, true, false, false] rfl rfl (by kernel_rfl) (by decide) (fun K hK => ?_)
    refine cz7_ BK4.out ?_; intro hcz7_0 hcz7_1 hcz7_2 hcz7_3 hcz7_4 hcz7_5 hcz7_6 hfz7_0 hfz7_1 hfz7_2 hfz7_3 hfz7_4 hfz7_5 hfz7_6
    refine skip_ (w1 := ?_) (by rfl) rfl ?_ ?_
    rotate_left
    ·go_simp
     rfl
    refine hK.out _ _ ?_ (fun hHeld => ?_)
    ·(first | exact HLc.out | exact (cell_far (p := ⟨gb4, 2, none⟩) (a := ⟨gL, 1, none⟩) NBL4.out _).trans HLc.out | exact (cell_far (p := ⟨gb4, 3, none⟩) (a := ⟨gL, 1, none⟩) NBL4.out _).trans ((cell_far (p := ⟨gb4, 2, none⟩) (a := ⟨gL, 1, none⟩) NBL4.out _).trans HLc.out))
    clear hK K
    refine pure_ (i := 8) (N := some 84) (v := ?_) (a' := ?_) #[true, true, true, true, true, true, true, true, true, false] rfl rfl (by kernel_rfl) (fun _ _ _ h => h) (Or.inl ⟨by rfl, ?_⟩) ?_ ?_
    rotate_left
    ·intro w'
     go_simp
     with_reducible rfl
    rotate_left
    ·simp only [Act.put, List.setIfInBounds_toArray, List.set_cons_zero, List.set_cons_succ, i64_w, i32_w]
     rfl
    refine one_ (i := 9) (N := none) #[true, true, true, true, true, true, true, true, true, true] rfl rfl (by kernel_rfl) (by decide) (fun K hK => ?_)
    refine skip_ (w1 := ?_) (by rfl) rfl ?_ ?_
    rotate_left
    ·go_simp
     rfl
    refine hK.out _ _ ?_ (fun hHeld => ?_)
    ·(first | exact HLc.out | exact (cell_far (p := ⟨gb4, 2, none⟩) (a := ⟨gL, 1, none⟩) NBL4.out _).trans HLc.out | exact (cell_far (p := ⟨gb4, 3, none⟩) (a := ⟨gL, 1, none⟩) NBL4.out _).trans ((cell_far (p := ⟨gb4, 2, none⟩) (a := ⟨gL, 1, none⟩) NBL4.out _).trans HLc.out))
    clear hK K
    refine done_ (by kernel_rfl) ?_
    try go_wp2
    go_meet
    case rel => exact ⟨x1, vs, (rd L 2), 0, 0, AV, cV, ⟨by unfold cand; rw [if_neg (by decide), if_neg (by decide), if_neg (by decide), if_neg (by decide), if_pos rfl, HX1.out, if_pos H3.out, HVS.out, HLT10.out, show (min 10 (l0.length : Int)).toNat = min 10 l0.length from by omega]⟩, ⟨by (with_reducible repeat (first | refine blk_drewN ?_ _ | refine blk_drew ?_ | refine blk_alloc ?_ _)); refine blk_far ?_ NB24.out _; (with_reducible repeat (first | refine blk_drewN ?_ _ | refine blk_drew ?_ | refine blk_alloc ?_ _)); refine blk_far ?_ NB24.out _; (with_reducible repeat (first | refine blk_drewN ?_ _ | refine blk_drew ?_ | refine blk_alloc ?_ _)); exact BK2.out⟩, ⟨by (with_reducible repeat (first | refine blk_drewN ?_ _ | refine blk_drew ?_ | refine blk_alloc ?_ _)); refine blk_put (cs := #[.int .i64 23, .int .i64 a1, .int .i64 x1, .slice none 0 0, .int .i64 (rd L 2), .int .i64 0, .int .i64 0]) ?_ 3 _ rfl; (with_reducible repeat (first | refine blk_drewN ?_ _ | refine blk_drew ?_ | refine blk_alloc ?_ _)); refine blk_put (cs := #[.int .i64 23, .int .i64 a1, .int .i64 0, .slice none 0 0, .int .i64 (rd L 2), .int .i64 0, .int .i64 0]) ?_ 2 _ rfl; (with_reducible repeat (first | refine blk_drewN ?_ _ | refine blk_drew ?_ | refine blk_alloc ?_ _)); exact BK4.out⟩, ⟨(Kd.R_reads' HVV.out).2.1⟩, ⟨by refine Kd.F_mono (Kd.F_far (p := ⟨gb4, 3, none⟩) (Kd.F_far (p := ⟨gb4, 2, none⟩) (F_two HVV.out G2.out G4.out) (fun k hk => hk.2) _) (fun k hk => hk.2) _) (fun k hk => hk.1)⟩, ⟨by repeat (first | (with_reducible first | exact HB0.out | apply below_alloc | apply pw_below_drewN | apply below_drew1 | refine below_set ?_ GE2.out | refine below_set ?_ GE4.out | refine below_set ?_ GEL.out) | exact HB0.out)⟩⟩
   ·have hp2b : decide ((2 : Int) < (L.length : Int)) = false := decide_eq_false (by omega)
    have hp2 : (L.length : Int) ≤ 2 := by omega
    have H3 := Aside0.mk h3
    clear h3
    go_wp2_with (fail)
    have BK4n : Aside0 ((w5.setCell ⟨gb4, 1, none⟩ (.int .i64 a1)).drew.heap[gb4]? = some (.cells #[.int .i64 23, .int .i64 a1, .int .i64 0, .slice none 0 0, .int .i64 0, .int .i64 0, .int .i64 0] 24 (0, 0))) := Aside0.mk (blk_drew (by (with_reducible repeat (first | refine blk_drewN ?_ _ | refine blk_drew ?_ | refine blk_alloc ?_ _)); refine blk_put (cs := #[.int .i64 23, .int .i64 0, .int .i64 0, .slice none 0 0, .int .i64 0, .int .i64 0, .int .i64 0]) ?_ 1 _ rfl; (with_reducible repeat (first | refine blk_drewN ?_ _ | refine blk_drew ?_ | refine blk_alloc ?_ _)); exact BK4.out))
    have BK2n : Aside0 ((w5.setCell ⟨gb4, 1, none⟩ (.int .i64 a1)).drew.heap[gb2]? = some (.cells #[.int .i64 0, .int .i64 0, .int .i64 0, .slice none 0 0, .int .i64 0, .int .i64 0, .int .i64 0] 24 (0, 0))) := Aside0.mk (blk_drew (by (with_reducible repeat (first | refine blk_drewN ?_ _ | refine blk_drew ?_ | refine blk_alloc ?_ _)); refine blk_far ?_ NB24.out _; (with_reducible repeat (first | refine blk_drewN ?_ _ | refine blk_drew ?_ | refine blk_alloc ?_ _)); exact BK2.out))
    have HBn : Aside0 (Below w.heap.size w (w5.setCell ⟨gb4, 1, none⟩ (.int .i64 a1)).drew) := Aside0.mk (by repeat (first | (with_reducible first | exact HB0.out | apply below_alloc | apply pw_below_drewN | apply below_drew1 | refine below_set ?_ GE2.out | refine below_set ?_ GE4.out | refine below_set ?_ GEL.out) | exact HB0.out))
    have HLc : Aside0 ((w5.setCell ⟨gb4, 1, none⟩ (.int .i64 a1)).drew.cell? ⟨gL, 1, none⟩ = some (.int .i64 x1)) := ⟨(cell_far (W := w5) (p := ⟨gb4, 1, none⟩) (a := ⟨gL, 1, none⟩) NBL4.out (.int .i64 a1)).trans hcL1⟩
    clear BK4 BK2 HB0 hcz5_0 hfz5_0 hcz5_1 hfz5_1 hcz5_2 hfz5_2 hcz5_3 hfz5_3 hcz5_4 hfz5_4 hcz5_5 hfz5_5 hcz5_6 hfz5_6
    have BK4 := BK4n
    have BK2 := BK2n
    have HB0 := HBn
    clear BK4n BK2n HBn
    refine start_ (n := 10) (S := fun W => W.cell? ⟨gL, 1, none⟩ = some (.int .i64 x1)) (ds := []) #[false, false, false, false, false, false, false, false, false, false] (by kernel_rfl) rfl rfl ?_ (fun hHeld => ?_)
    ·(first | exact HLc.out | exact (cell_far (p := ⟨gb4, 2, none⟩) (a := ⟨gL, 1, none⟩) NBL4.out _).trans HLc.out | exact (cell_far (p := ⟨gb4, 3, none⟩) (a := ⟨gL, 1, none⟩) NBL4.out _).trans ((cell_far (p := ⟨gb4, 2, none⟩) (a := ⟨gL, 1, none⟩) NBL4.out _).trans HLc.out))
    generalize (w5.setCell ⟨gb4, 1, none⟩ (.int .i64 a1)).drew = w6 at BK4 BK2 HB0 HLc hHeld ⊢
    refine pure_ (i := 0) (N := some 77) (v := ?_) (a' := ?_) #[true, false, false, false, false, false, false, false, false, false] rfl rfl (by kernel_rfl) (fun _ _ _ h => h) (Or.inl ⟨by rfl, ?_⟩) ?_ ?_
    rotate_left
    ·intro w'
     go_simp
     with_reducible rfl
    rotate_left
    ·simp only [Act.put, List.setIfInBounds_toArray, List.set_cons_zero, List.set_cons_succ, i64_w, i32_w]
     rfl
    refine take_ (i := 1) (N := some 78) (v := ?_) (a' := ?_) #[true, true, false, false, false, false, false, false, false, false] rfl rfl (by kernel_rfl) (fun _ _ _ h => h) (Or.inl ⟨by rfl, ?_⟩) hHeld ?_ ?_
    rotate_left
    ·rintro w' hS_
     go_simp
     with_reducible rfl
    rotate_left
    ·simp only [Act.put, List.setIfInBounds_toArray, List.set_cons_zero, List.set_cons_succ, i64_w, i32_w]
     rfl
    refine take_ (i := 2) (N := some 79) (v := ?_) (a' := ?_) #[true, true, true, false, false, false, false, false, false, false] rfl rfl (by kernel_rfl) (fun _ _ _ h => h) (Or.inl ⟨by rfl, ?_⟩) hHeld ?_ ?_
    rotate_left
    ·rintro w' hS_
     go_simp
     with_reducible rfl
    rotate_left
    ·simp only [Act.put, List.setIfInBounds_toArray, List.set_cons_zero, List.set_cons_succ, i64_w, i32_w]
     rfl
    refine pure_ (i := 3) (N := some 80) (v := ?_) (a' := ?_) #[true, true, true, true, false, false, false, false, false, false] rfl rfl (by kernel_rfl) (fun _ _ _ h => h) (Or.inl ⟨by rfl, ?_⟩) ?_ ?_
    rotate_left
    ·intro w'
     go_simp
     with_reducible rfl
    rotate_left
    ·simp only [Act.put, List.setIfInBounds_toArray, List.set_cons_zero, List.set_cons_succ, i64_w, i32_w]
     rfl
    refine pure_ (i := 6) (N := some 83) (v := ?_) (a' := ?_) #[true, true, true, true, false, false, true, false, false, false] rfl rfl (by kernel_rfl) (fun _ _ _ h => h) (Or.inl ⟨by rfl, ?_⟩) ?_ ?_
    rotate_left
    ·intro w'
     go_simp
     with_reducible rfl
    rotate_left
    ·simp only [Act.put, List.setIfInBounds_toArray, List.set_cons_zero, List.set_cons_succ, i64_w, i32_w]
     rfl
    refine one_ (i := 4) (N := some 81) #[true, true, true, true, true, false, true, false, false, false] rfl rfl (by kernel_rfl) (by decide) (fun K hK => ?_)
    refine goes_ Try.func61 (by kernel_rfl) rfl #[.slice (some ad) l0.length c0, .int .i64 10] (by rfl) rfl rfl (by (try simp only [List.map_toArray, List.map_cons, List.map_nil]); first | done | rfl) ?_
    refine (pdu_from.calls (some ad) c0 l0 10 _ (.slice D10 lt10.length d10) _ hcut10 rfl).mono ?_
    rintro e w' ⟨rfl, ⟨nd, rfl⟩⟩
    refine ⟨_, rfl, ?_⟩
    refine hK.out _ _ ?_ (fun hHeld => ?_)
    ·(first | exact HLc.out | exact (cell_far (p := ⟨gb4, 2, none⟩) (a := ⟨gL, 1, none⟩) NBL4.out _).trans HLc.out | exact (cell_far (p := ⟨gb4, 3, none⟩) (a := ⟨gL, 1, none⟩) NBL4.out _).trans ((cell_far (p := ⟨gb4, 2, none⟩) (a := ⟨gL, 1, none⟩) NBL4.out _).trans HLc.out))
    clear hK K
    refine norm_ (a' := ?_) ?_ ?_
    rotate_left
    ·show Act.put _ (some 81) _ = _
     simp only [Act.put, List.setIfInBounds_toArray, List.set_cons_zero, List.set_cons_succ, i64_w, i32_w]
     rfl
    refine one_ (i := 5) (N := some 82) #[true, true, true, true, true, true, true, false, false, false] rfl rfl (by kernel_rfl) (by decide) (fun K hK => ?_)
    refine goes_ Try.func59 (by kernel_rfl) rfl #[.slice D10 lt10.length d10] (by rfl) rfl rfl (by (try simp only [List.map_toArray, List.map_cons, List.map_nil]); first | done | rfl) ?_
    refine (PR.pdu_words.calls KF D10 d10 lt10 vs _ (Kd.C_below HV10.out (by repeat (first | (with_reducible first | exact HB0.out | apply below_alloc | apply pw_below_drewN | apply below_drew1 | refine below_set ?_ GE2.out | refine below_set ?_ GE4.out | refine below_set ?_ GEL.out) | exact HB0.out))) HD10.out fW.out).mono ?_
    rintro e w7 ⟨vV, rfl, HRV, HBc⟩
    refine ⟨_, rfl, ?_⟩
    have BK4n : Aside0 (w7.heap[gb4]? = some (.cells #[.int .i64 23, .int .i64 a1, .int .i64 0, .slice none 0 0, .int .i64 0, .int .i64 0, .int .i64 0] 24 (0, 0))) := Aside0.mk (blk_below (g := gb4) (bk_ BK4) HBc)
    have BK2n : Aside0 (w7.heap[gb2]? = some (.cells #[.int .i64 0, .int .i64 0, .int .i64 0, .slice none 0 0, .int .i64 0, .int .i64 0, .int .i64 0] 24 (0, 0))) := Aside0.mk (blk_below (g := gb2) (bk_ BK2) HBc)
    have HBn := Aside0.mk (below_step (by repeat (first | (with_reducible first | exact HB0.out | apply below_alloc | apply pw_below_drewN | apply below_drew1 | refine below_set ?_ GE2.out | refine below_set ?_ GE4.out | refine below_set ?_ GEL.out) | exact HB0.out)) HBc)
    have HLn : Aside0 (w7.cell? ⟨gL, 1, none⟩ = some (.int .i64 x1)) := ⟨(HBc.cell (World.block_lt_of_cell? _ _ (show (w6.drewN nd).cell? ⟨gL, 1, none⟩ = some (.int .i64 x1) from HLc.out))).trans HLc.out⟩
    obtain ⟨AV, cV, rfl⟩ := Kd.R_slice HRV
    have HVV : Aside0 ((Kd.int .i64).R 3 w7 w6.heap.size (fun _ => True) (.slice AV vs.length cV) vs) := ⟨Kd.R_lower HRV (by simp only [size_drewN', size_drew', size_set', size_alloc']; omega)⟩
    have G2 : Aside0 (gb2 < w6.heap.size) := ⟨blk_lt BK2.out⟩
    have G4 : Aside0 (gb4 < w6.heap.size) := ⟨blk_lt BK4.out⟩
    clear HB0 BK2 BK4 HRV HBc HLc
    have HB0 := HBn
    have BK2 := BK2n
    have BK4 := BK4n
    have HLc := HLn
    clear HLn
    clear HBn BK2n BK4n
    refine hK.out _ _ ?_ (fun hHeld => ?_)
    ·(first | exact HLc.out | exact (cell_far (p := ⟨gb4, 2, none⟩) (a := ⟨gL, 1, none⟩) NBL4.out _).trans HLc.out | exact (cell_far (p := ⟨gb4, 3, none⟩) (a := ⟨gL, 1, none⟩) NBL4.out _).trans ((cell_far (p := ⟨gb4, 2, none⟩) (a := ⟨gL, 1, none⟩) NBL4.out _).trans HLc.out))
    clear hK K
    refine norm_ (a' := ?_) ?_ ?_
    rotate_left
    ·show Act.put _ (some 82) _ = _
     simp only [Act.put, List.setIfInBounds_toArray, List.set_cons_zero, List.set_cons_succ, i64_w, i32_w]
     rfl
    refine one_ (i := 7) (N := none) #[true, true, true, true, true, true, true, true, false, false] rfl rfl (by kernel_rfl) (by decide) (fun K hK => ?_)
    refine cz7_ BK4.out ?_; intro hcz7_0 hcz7_1 hcz7_2 hcz7_3 hcz7_4 hcz7_5 hcz7_6 hfz7_0 hfz7_1 hfz7_2 hfz7_3 hfz7_4 hfz7_5 hfz7_6
    refine skip_ (w1 := ?_) (by rfl) rfl ?_ ?_
    rotate_left
    ·go_simp
     rfl
    refine hK.out _ _ ?_ (fun hHeld => ?_)
    ·(first | exact HLc.out | exact (cell_far (p := ⟨gb4, 2, none⟩) (a := ⟨gL, 1, none⟩) NBL4.out _).trans HLc.out | exact (cell_far (p := ⟨gb4, 3, none⟩) (a := ⟨gL, 1, none⟩) NBL4.out _).trans ((cell_far (p := ⟨gb4, 2, none⟩) (a := ⟨gL, 1, none⟩) NBL4.out _).trans HLc.out))
    clear hK K
    refine pure_ (i := 8) (N := some 84) (v := ?_) (a' := ?_) #[true, true, true, true, true, true, true, true, true, false] rfl rfl (by kernel_rfl) (fun _ _ _ h => h) (Or.inl ⟨by rfl, ?_⟩) ?_ ?_
    rotate_left
    ·intro w'
     go_simp
     with_reducible rfl
    rotate_left
    ·simp only [Act.put, List.setIfInBounds_toArray, List.set_cons_zero, List.set_cons_succ, i64_w, i32_w]
     rfl
    refine one_ (i := 9) (N := none) #[true, true, true, true, true, true, true, true, true, true] rfl rfl (by kernel_rfl) (by decide) (fun K hK => ?_)
    refine skip_ (w1 := ?_) (by rfl) rfl ?_ ?_
    rotate_left
    ·go_simp
     rfl
    refine hK.out _ _ ?_ (fun hHeld => ?_)
    ·(first | exact HLc.out | exact (cell_far (p := ⟨gb4, 2, none⟩) (a := ⟨gL, 1, none⟩) NBL4.out _).trans HLc.out | exact (cell_far (p := ⟨gb4, 3, none⟩) (a := ⟨gL, 1, none⟩) NBL4.out _).trans ((cell_far (p := ⟨gb4, 2, none⟩) (a := ⟨gL, 1, none⟩) NBL4.out _).trans HLc.out))
    clear hK K
    refine done_ (by kernel_rfl) ?_
    try go_wp2
    go_meet
    case rel => exact ⟨x1, vs, 0, 0, 0, AV, cV, ⟨by unfold cand; rw [if_neg (by decide), if_neg (by decide), if_neg (by decide), if_neg (by decide), if_pos rfl, HX1.out, if_neg H3.out, HVS.out, HLT10.out, show (min 10 (l0.length : Int)).toNat = min 10 l0.length from by omega]⟩, ⟨by (with_reducible repeat (first | refine blk_drewN ?_ _ | refine blk_drew ?_ | refine blk_alloc ?_ _)); refine blk_far ?_ NB24.out _; (with_reducible repeat (first | refine blk_drewN ?_ _ | refine blk_drew ?_ | refine blk_alloc ?_ _)); refine blk_far ?_ NB24.out _; (with_reducible repeat (first | refine blk_drewN ?_ _ | refine blk_drew ?_ | refine blk_alloc ?_ _)); exact BK2.out⟩, ⟨by (with_reducible repeat (first | refine blk_drewN ?_ _ | refine blk_drew ?_ | refine blk_alloc ?_ _)); refine blk_put (cs := #[.int .i64 23, .int .i64 a1, .int .i64 x1, .slice none 0 0, .int .i64 0, .int .i64 0, .int .i64 0]) ?_ 3 _ rfl; (with_reducible repeat (first | refine blk_drewN ?_ _ | refine blk_drew ?_ | refine blk_alloc ?_ _)); refine blk_put (cs := #[.int .i64 23, .int .i64 a1, .int .i64 0, .slice none 0 0, .int .i64 0, .int .i64 0, .int .i64 0]) ?_ 2 _ rfl; (with_reducible repeat (first | refine blk_drewN ?_ _ | refine blk_drew ?_ | refine blk_alloc ?_ _)); exact BK4.out⟩, ⟨(Kd.R_reads' HVV.out).2.1⟩, ⟨by refine Kd.F_mono (Kd.F_far (p := ⟨gb4, 3, none⟩) (Kd.F_far (p := ⟨gb4, 2, none⟩) (F_two HVV.out G2.out G4.out) (fun k hk => hk.2) _) (fun k hk => hk.2) _) (fun k hk => hk.1)⟩, ⟨by repeat (first | (with_reducible first | exact HB0.out | apply below_alloc | apply pw_below_drewN | apply below_drew1 | refine below_set ?_ GE2.out | refine below_set ?_ GE4.out | refine below_set ?_ GEL.out) | exact HB0.out)⟩⟩
  have hb23 : (fn == 23) = false := beq_eq_false_iff_ne.2 c23
  by_cases c16 : fn = 16
  ·subst c16
   obtain ⟨D6, lt6, d6, hlt6, hcut6, hV6, hd6⟩ := cut_u8 w (some ad) c0 l0 (min 6 (l0.length : Int)) (by omega) (by omega) HC0.out HR0.out
   have HLT6 := Aside0.mk hlt6
   have HV6 := Aside0.mk hV6
   have HD6 := Aside0.mk hd6
   clear hV6 hd6 hlt6
   have fW : Aside0 (PR.pdu_words.f KF lt6 = some (wordsOf lt6)) := ⟨pwords_f lt6 (by rw [HLT6.out]; exact bytes_drop HBY.out _) (by rw [HLT6.out, List.length_drop]; have := HL0.out; omega) KF (by rw [HLT6.out, List.length_drop]; have := HL0.out; have := HK.out; omega)⟩
   obtain ⟨vs, hvs⟩ : ∃ vs, vs = wordsOf lt6 := ⟨_, rfl⟩
   rw [← hvs] at fW
   have HVS := Aside0.mk hvs
   clear hvs
   go_wp2_with (first | (go_at_call 61; refine (pdu_from.calls (some ad) c0 l0 6 _ (.slice D6 lt6.length d6) _ hcut6 rfl).mono ?_; rintro e w' ⟨rfl, ⟨nd, rfl⟩⟩) | (go_at_call 59; refine (PR.pdu_words.calls KF D6 d6 lt6 vs _ (Kd.C_below HV6.out (by repeat (first | (with_reducible first | exact HB0.out | apply below_alloc | apply pw_below_drewN | apply below_drew1 | refine below_set ?_ GE2.out | refine below_set ?_ GE4.out | refine below_set ?_ GEL.out) | exact HB0.out))) HD6.out fW.out).mono ?_; rintro e w6 ⟨vV, rfl, HRV, HBc⟩; have BK4n : Aside0 (w6.heap[gb4]? = some (.cells #[.int .i64 16, .int .i64 a1, .int .i64 0, .slice none 0 0, .int .i64 0, .int .i64 0, .int .i64 0] 24 (0, 0))) := Aside0.mk (blk_below (g := gb4) (by (with_reducible repeat (first | refine blk_drewN ?_ _ | refine blk_drew ?_ | refine blk_alloc ?_ _)); refine blk_put (cs := #[.int .i64 16, .int .i64 0, .int .i64 0, .slice none 0 0, .int .i64 0, .int .i64 0, .int .i64 0]) ?_ 1 _ rfl; (with_reducible repeat (first | refine blk_drewN ?_ _ | refine blk_drew ?_ | refine blk_alloc ?_ _)); exact BK4.out) HBc); have BK2n : Aside0 (w6.heap[gb2]? = some (.cells #[.int .i64 0, .int .i64 0, .int .i64 0, .slice none 0 0, .int .i64 0, .int .i64 0, .int .i64 0] 24 (0, 0))) := Aside0.mk (blk_below (g := gb2) (by (with_reducible repeat (first | refine blk_drewN ?_ _ | refine blk_drew ?_ | refine blk_alloc ?_ _)); refine blk_far ?_ NB24.out _; (with_reducible repeat (first | refine blk_drewN ?_ _ | refine blk_drew ?_ | refine blk_alloc ?_ _)); exact BK2.out) HBc); have HBn := Aside0.mk (below_step (by repeat (first | (with_reducible first | exact HB0.out | apply below_alloc | apply pw_below_drewN | apply below_drew1 | refine below_set ?_ GE2.out | refine below_set ?_ GE4.out | refine below_set ?_ GEL.out) | exact HB0.out)) HBc); have hq1 := (cell_far (W := w5) (p := ⟨gb4, 1, none⟩) (a := ⟨gL, 1, none⟩) NBL4.out (.int .i64 a1)).trans hcL1; have HL6 : Aside0 (w6.cell? ⟨gL, 1, none⟩ = some (.int .i64 x1)) := ⟨(HBc.cell (World.block_lt_of_cell? _ _ hq1)).trans hq1⟩; clear hq1; have hg2 := blk_lt BK2.out; have hgc := below_size (Below.refl w5.heap.size w5); obtain ⟨AV, cV, rfl⟩ := Kd.R_slice HRV; have HVV : Aside0 ((Kd.int .i64).R 3 w6 w5.heap.size (fun _ => True) (.slice AV vs.length cV) vs) := ⟨Kd.R_lower HRV (by simp only [size_drewN', size_drew', size_set', size_alloc']; omega)⟩; have G2 : Aside0 (gb2 < w5.heap.size) := ⟨hg2⟩; have G4 : Aside0 (gb4 < w5.heap.size) := ⟨blk_lt BK4.out⟩; clear HB0 BK2 BK4 hg2 hgc HRV HBc hcz5_0 hfz5_0 hcz5_1 hfz5_1 hcz5_2 hfz5_2 hcz5_3 hfz5_3 hcz5_4 hfz5_4 hcz5_5 hfz5_5 hcz5_6 hfz5_6 hcL0 hcL1 hfL1; have HB0 := HBn; have BK2 := BK2n; have BK4 := BK4n; clear HBn BK2n BK4n; have hcl1 : w6.cell? ⟨gL, 1, none⟩ = some (.int .i64 x1) := HL6.out; refine cz7_ BK4.out ?_; intro hcz6_0 hcz6_1 hcz6_2 hcz6_3 hcz6_4 hcz6_5 hcz6_6 hfz6_0 hfz6_1 hfz6_2 hfz6_3 hfz6_4 hfz6_5 hfz6_6))
   go_meet
   case rel => exact ⟨x1, vs, 0, 0, 0, AV, cV, ⟨by unfold cand; rw [if_neg (by decide), if_neg (by decide), if_neg (by decide), if_neg (by decide), if_neg (by decide), if_pos rfl, HX1.out, HVS.out, HLT6.out, show (min 6 (l0.length : Int)).toNat = min 6 l0.length from by omega]⟩, ⟨by (with_reducible repeat (first | refine blk_drewN ?_ _ | refine blk_drew ?_ | refine blk_alloc ?_ _)); refine blk_far ?_ NB24.out _; (with_reducible repeat (first | refine blk_drewN ?_ _ | refine blk_drew ?_ | refine blk_alloc ?_ _)); refine blk_far ?_ NB24.out _; (with_reducible repeat (first | refine blk_drewN ?_ _ | refine blk_drew ?_ | refine blk_alloc ?_ _)); exact BK2.out⟩, ⟨by (with_reducible repeat (first | refine blk_drewN ?_ _ | refine blk_drew ?_ | refine blk_alloc ?_ _)); refine blk_put (cs := #[.int .i64 16, .int .i64 a1, .int .i64 0, .slice AV vs.length cV, .int .i64 0, .int .i64 0, .int .i64 0]) ?_ 2 _ rfl; (with_reducible repeat (first | refine blk_drewN ?_ _ | refine blk_drew ?_ | refine blk_alloc ?_ _)); refine blk_put (cs := #[.int .i64 16, .int .i64 a1, .int .i64 0, .slice none 0 0, .int .i64 0, .int .i64 0, .int .i64 0]) ?_ 3 _ rfl; (with_reducible repeat (first | refine blk_drewN ?_ _ | refine blk_drew ?_ | refine blk_alloc ?_ _)); exact BK4.out⟩, ⟨(Kd.R_reads' HVV.out).2.1⟩, ⟨by refine Kd.F_mono (Kd.F_far (p := ⟨gb4, 2, none⟩) (Kd.F_far (p := ⟨gb4, 3, none⟩) (F_two HVV.out G2.out G4.out) (fun k hk => hk.2) _) (fun k hk => hk.2) _) (fun k hk => hk.1)⟩, ⟨by repeat (first | (with_reducible first | exact HB0.out | apply below_alloc | apply pw_below_drewN | apply below_drew1 | refine below_set ?_ GE2.out | refine below_set ?_ GE4.out | refine below_set ?_ GEL.out) | exact HB0.out)⟩⟩
  have hb16 : (fn == 16) = false := beq_eq_false_iff_ne.2 c16
  go_wp2_with (fail)
  go_meet
  case rel => exact ⟨x1, [], 0, 0, 0, none, 0, ⟨by unfold cand; rw [if_neg c5, if_neg c6, if_neg c22, if_neg c15, if_neg c23, if_neg c16, HX1.out]⟩, ⟨by (with_reducible repeat (first | refine blk_drewN ?_ _ | refine blk_drew ?_ | refine blk_alloc ?_ _)); refine blk_far ?_ NB24.out _; (with_reducible repeat (first | refine blk_drewN ?_ _ | refine blk_drew ?_ | refine blk_alloc ?_ _)); refine blk_far ?_ NB24.out _; (with_reducible repeat (first | refine blk_drewN ?_ _ | refine blk_drew ?_ | refine blk_alloc ?_ _)); exact BK2.out⟩, ⟨by (with_reducible repeat (first | refine blk_drewN ?_ _ | refine blk_drew ?_ | refine blk_alloc ?_ _)); refine blk_put (cs := #[.int .i64 fn, .int .i64 a1, .int .i64 0, .slice none 0 0, .int .i64 0, .int .i64 0, .int .i64 0]) ?_ 2 _ rfl; (with_reducible repeat (first | refine blk_drewN ?_ _ | refine blk_drew ?_ | refine blk_alloc ?_ _)); refine blk_put (cs := #[.int .i64 fn, .int .i64 0, .int .i64 0, .slice none 0 0, .int .i64 0, .int .i64 0, .int .i64 0]) ?_ 1 _ rfl; (with_reducible repeat (first | refine blk_drewN ?_ _ | refine blk_drew ?_ | refine blk_alloc ?_ _)); exact BK4.out⟩, ⟨by simp⟩, ⟨F_nil' _ _⟩, ⟨by repeat (first | (with_reducible first | exact HB0.out | apply below_alloc | apply pw_below_drewN | apply below_drew1 | refine below_set ?_ GE2.out | refine below_set ?_ GE4.out | refine below_set ?_ GEL.out) | exact HB0.out)⟩⟩
 case rest =>
  obtain ⟨a2, vs, a4, a5, a6, A, c, HCD, BK2', BK4', HVC, HV, HBn⟩ := hcut
  clear HB0 BK2 BK4 hcz5_0 hfz5_0 hcz5_1 hfz5_1 hcz5_2 hfz5_2 hcz5_3 hfz5_3 hcz5_4 hfz5_4 hcz5_5 hfz5_5 hcz5_6 hfz5_6 hcL0 hcL1 hfL1
  have HB0 := HBn
  have BK2 := BK2'
  have BK4 := BK4'
  clear HBn BK2' BK4'
  have hvl : vs.length ≤ 100000 := cand_len (by rw [HX1.out]; exact hx11) HL0.out HCD.out
  cases hm : mayB fn a1 a2 vs a4 a5 a6
  ·have HM := Aside0.mk hm
   have fB : Aside0 (pdu_Bytes.f KF fn a1 a2 vs a4 a5 a6 = some ([], 1)) := ⟨bytes_no KF fn a1 a2 vs a4 a5 a6 (by omega) (by have := HK.out; omega) hm⟩
   clear hm hvl
   refine cz7_ BK4.out ?_; intro hcz8_0 hcz8_1 hcz8_2 hcz8_3 hcz8_4 hcz8_5 hcz8_6 hfz8_0 hfz8_1 hfz8_2 hfz8_3 hfz8_4 hfz8_5 hfz8_6
   have hwc := NB24.out
   have hwd := NB42.out
   go_wp2_with (first | (go_at_call 30; refine (pdu_Bytes.calls KF fn a1 a2 A c vs a4 a5 a6 [] 1 _ (by (with_reducible repeat (first | refine Kd.C_alloc ?_ _ | refine Kd.C_drewN ?_ _ | refine Kd.C_drew ?_)); exact Kd.F_now HV.out) HVC.out fB.out).mono ?_; rintro e w8 ⟨vq, rfl, HRq, HBc⟩; have BK4n : Aside0 (w8.heap[gb4]? = some (.cells #[.int .i64 fn, .int .i64 a1, .int .i64 a2, .slice A vs.length c, .int .i64 a4, .int .i64 a5, .int .i64 a6] 24 (0, 0))) := Aside0.mk (blk_below (g := gb4) (bk_ BK4) HBc); have BK2n : Aside0 (w8.heap[gb2]? = some (.cells #[.int .i64 0, .int .i64 0, .int .i64 0, .slice none 0 0, .int .i64 0, .int .i64 0, .int .i64 0] 24 (0, 0))) := Aside0.mk (blk_below (g := gb2) (bk_ BK2) HBc); have HBn := Aside0.mk (below_step (by repeat (first | (with_reducible first | exact HB0.out | apply below_alloc | apply pw_below_drewN | apply below_drew1 | refine below_set ?_ GE2.out | refine below_set ?_ GE4.out | refine below_set ?_ GEL.out) | exact HB0.out)) HBc); have HVn := Aside0.mk (Kd.F_below (by exact HV.out) HBc); obtain ⟨Aq, cq, rfl⟩ := Kd.R_slice HRq; have HQ := Aside0.mk (Kd.R_reads' HRq).2.2; have HQC := Aside0.mk (Kd.R_reads' HRq).2.1; clear HB0 BK2 BK4 HV HRq HBc hcz8_0 hfz8_0 hcz8_1 hfz8_1 hcz8_2 hfz8_2 hcz8_3 hfz8_3 hcz8_4 hfz8_4 hcz8_5 hfz8_5 hcz8_6 hfz8_6; have HB0 := HBn; have BK2 := BK2n; have BK4 := BK4n; have HV := HVn; clear HBn BK2n BK4n HVn; refine cz7_ BK4.out ?_; intro hcz9_0 hcz9_1 hcz9_2 hcz9_3 hcz9_4 hcz9_5 hcz9_6 hfz9_0 hfz9_1 hfz9_2 hfz9_3 hfz9_4 hfz9_5 hfz9_6; refine cz7_ BK2.out ?_; intro hcz2_0 hcz2_1 hcz2_2 hcz2_3 hcz2_4 hcz2_5 hcz2_6 hfz2_0 hfz2_1 hfz2_2 hfz2_3 hfz2_4 hfz2_5 hfz2_6))
   refine bodyPost_ret (results_ct rfl _ _ gb2 24 #[.int .i64 0, .int .i64 0, .int .i64 0, .slice none 0 0, .int .i64 0, .int .i64 0, .int .i64 0] (0, 0) _ rfl (by (with_reducible repeat (first | refine blk_drewN ?_ _ | refine blk_drew ?_ | refine blk_alloc ?_ _)); refine blk_put (cs := #[.int .i64 0, .int .i64 0, .int .i64 0, .slice none 0 0, .int .i64 0, .int .i64 0, .int .i64 0]) ?_ 6 _ rfl; (with_reducible repeat (first | refine blk_drewN ?_ _ | refine blk_drew ?_ | refine blk_alloc ?_ _)); refine blk_put (cs := #[.int .i64 0, .int .i64 0, .int .i64 0, .slice none 0 0, .int .i64 0, .int .i64 0, .int .i64 0]) ?_ 5 _ rfl; (with_reducible repeat (first | refine blk_drewN ?_ _ | refine blk_drew ?_ | refine blk_alloc ?_ _)); refine blk_put (cs := #[.int .i64 0, .int .i64 0, .int .i64 0, .slice none 0 0, .int .i64 0, .int .i64 0, .int .i64 0]) ?_ 4 _ rfl; (with_reducible repeat (first | refine blk_drewN ?_ _ | refine blk_drew ?_ | refine blk_alloc ?_ _)); refine blk_put (cs := #[.int .i64 0, .int .i64 0, .int .i64 0, .slice none 0 0, .int .i64 0, .int .i64 0, .int .i64 0]) ?_ 3 _ rfl; (with_reducible repeat (first | refine blk_drewN ?_ _ | refine blk_drew ?_ | refine blk_alloc ?_ _)); refine blk_put (cs := #[.int .i64 0, .int .i64 0, .int .i64 0, .slice none 0 0, .int .i64 0, .int .i64 0, .int .i64 0]) ?_ 2 _ rfl; (with_reducible repeat (first | refine blk_drewN ?_ _ | refine blk_drew ?_ | refine blk_alloc ?_ _)); refine blk_put (cs := #[.int .i64 0, .int .i64 0, .int .i64 0, .slice none 0 0, .int .i64 0, .int .i64 0, .int .i64 0]) ?_ 1 _ rfl; (with_reducible repeat (first | refine blk_drewN ?_ _ | refine blk_drew ?_ | refine blk_alloc ?_ _)); refine blk_put (cs := #[.int .i64 0, .int .i64 0, .int .i64 0, .slice none 0 0, .int .i64 0, .int .i64 0, .int .i64 0]) ?_ 0 _ rfl; (with_reducible repeat (first | refine blk_drewN ?_ _ | refine blk_drew ?_ | refine blk_alloc ?_ _)); exact BK2.out) Try.underlying24 rfl (by kernel_rfl)) rfl ?_
   rw [parseG_no HCD.out (fun h => Bool.false_ne_true (HM.out.symm.trans h.1))]
   exact ⟨none, 0, rfl, Nat.le_refl _, Kd.C_nil _ _, by repeat (first | (with_reducible first | exact HB0.out | apply below_alloc | apply pw_below_drewN | apply below_drew1 | refine below_set ?_ GE2.out | refine below_set ?_ GE4.out | refine below_set ?_ GEL.out) | exact HB0.out)⟩
  ·have HM := Aside0.mk hm
   have fB' := bytes_yes KF fn a1 a2 vs a4 a5 a6 (by have := HK.out; omega) hm
   have hqb := reqB_bytes (may_is hm)
   obtain ⟨q, hq⟩ : ∃ q, reqB fn a1 a2 vs a4 a5 a6 = q := ⟨_, rfl⟩
   rw [hq] at fB' hqb
   have fB := Aside0.mk fB'
   have HQQ := Aside0.mk hq
   clear hm hvl hq fB'
   by_cases he : q = l0
   ·have HE : Aside0 (reqB fn a1 a2 vs a4 a5 a6 = l0) := ⟨HQQ.out.trans he⟩
    have fE : Aside0 (PR.bytes_Equal.f q l0 = some true) := ⟨by unfold PR.bytes_Equal.f; rw [str_beq hqb HBY.out, decide_eq_true he]⟩
    clear he hqb HQQ
    refine cz7_ BK4.out ?_; intro hcz8_0 hcz8_1 hcz8_2 hcz8_3 hcz8_4 hcz8_5 hcz8_6 hfz8_0 hfz8_1 hfz8_2 hfz8_3 hfz8_4 hfz8_5 hfz8_6
    have hwc := NB24.out
    have hwd := NB42.out
    go_wp2_with (first | (go_at_call 30; refine (pdu_Bytes.calls KF fn a1 a2 A c vs a4 a5 a6 q 0 _ (by (with_reducible repeat (first | refine Kd.C_alloc ?_ _ | refine Kd.C_drewN ?_ _ | refine Kd.C_drew ?_)); exact Kd.F_now HV.out) HVC.out fB.out).mono ?_; rintro e w8 ⟨vq, rfl, HRq, HBc⟩; have BK4n : Aside0 (w8.heap[gb4]? = some (.cells #[.int .i64 fn, .int .i64 a1, .int .i64 a2, .slice A vs.length c, .int .i64 a4, .int .i64 a5, .int .i64 a6] 24 (0, 0))) := Aside0.mk (blk_below (g := gb4) (bk_ BK4) HBc); have BK2n : Aside0 (w8.heap[gb2]? = some (.cells #[.int .i64 0, .int .i64 0, .int .i64 0, .slice none 0 0, .int .i64 0, .int .i64 0, .int .i64 0] 24 (0, 0))) := Aside0.mk (blk_below (g := gb2) (bk_ BK2) HBc); have HBn := Aside0.mk (below_step (by repeat (first | (with_reducible first | exact HB0.out | apply below_alloc | apply pw_below_drewN | apply below_drew1 | refine below_set ?_ GE2.out | refine below_set ?_ GE4.out | refine below_set ?_ GEL.out) | exact HB0.out)) HBc); have HVn := Aside0.mk (Kd.F_below (by exact HV.out) HBc); obtain ⟨Aq, cq, rfl⟩ := Kd.R_slice HRq; have HQ := Aside0.mk (Kd.R_reads' HRq).2.2; have HQC := Aside0.mk (Kd.R_reads' HRq).2.1; clear HB0 BK2 BK4 HV HRq HBc hcz8_0 hfz8_0 hcz8_1 hfz8_1 hcz8_2 hfz8_2 hcz8_3 hfz8_3 hcz8_4 hfz8_4 hcz8_5 hfz8_5 hcz8_6 hfz8_6; have HB0 := HBn; have BK2 := BK2n; have BK4 := BK4n; have HV := HVn; clear HBn BK2n BK4n HVn; refine cz7_ BK4.out ?_; intro hcz9_0 hcz9_1 hcz9_2 hcz9_3 hcz9_4 hcz9_5 hcz9_6 hfz9_0 hfz9_1 hfz9_2 hfz9_3 hfz9_4 hfz9_5 hfz9_6; refine cz7_ BK2.out ?_; intro hcz2_0 hcz2_1 hcz2_2 hcz2_3 hcz2_4 hcz2_5 hcz2_6 hfz2_0 hfz2_1 hfz2_2 hfz2_3 hfz2_4 hfz2_5 hfz2_6) | (go_at_call 62; refine (PR.bytes_Equal.calls Aq cq q (some ad) c0 l0 true _ (by (with_reducible repeat (first | refine Kd.C_alloc ?_ _ | refine Kd.C_drewN ?_ _ | refine Kd.C_drew ?_)); exact HQ.out) HQC.out (Kd.C_below HR0.out (by repeat (first | (with_reducible first | exact HB0.out | apply below_alloc | apply pw_below_drewN | apply below_drew1 | refine below_set ?_ GE2.out | refine below_set ?_ GE4.out | refine below_set ?_ GEL.out) | exact HB0.out))) HC0.out fE.out).mono ?_; rintro e w' ⟨rfl, ⟨ne, rfl⟩⟩))
    refine bodyPost_ret (results_ct rfl _ _ gb2 24 #[.int .i64 fn, .int .i64 a1, .int .i64 a2, .slice A vs.length c, .int .i64 a4, .int .i64 a5, .int .i64 a6] (0, 0) _ rfl (by (with_reducible repeat (first | refine blk_drewN ?_ _ | refine blk_drew ?_ | refine blk_alloc ?_ _)); refine blk_put (cs := #[.int .i64 fn, .int .i64 a1, .int .i64 a2, .slice A vs.length c, .int .i64 a4, .int .i64 a5, .int .i64 0]) ?_ 6 _ rfl; (with_reducible repeat (first | refine blk_drewN ?_ _ | refine blk_drew ?_ | refine blk_alloc ?_ _)); refine blk_put (cs := #[.int .i64 fn, .int .i64 a1, .int .i64 a2, .slice A vs.length c, .int .i64 a4, .int .i64 0, .int .i64 0]) ?_ 5 _ rfl; (with_reducible repeat (first | refine blk_drewN ?_ _ | refine blk_drew ?_ | refine blk_alloc ?_ _)); refine blk_put (cs := #[.int .i64 fn, .int .i64 a1, .int .i64 a2, .slice A vs.length c, .int .i64 0, .int .i64 0, .int .i64 0]) ?_ 4 _ rfl; (with_reducible repeat (first | refine blk_drewN ?_ _ | refine blk_drew ?_ | refine blk_alloc ?_ _)); refine blk_put (cs := #[.int .i64 fn, .int .i64 a1, .int .i64 a2, .slice none 0 0, .int .i64 0, .int .i64 0, .int .i64 0]) ?_ 3 _ rfl; (with_reducible repeat (first | refine blk_drewN ?_ _ | refine blk_drew ?_ | refine blk_alloc ?_ _)); refine blk_put (cs := #[.int .i64 fn, .int .i64 a1, .int .i64 0, .slice none 0 0, .int .i64 0, .int .i64 0, .int .i64 0]) ?_ 2 _ rfl; (with_reducible repeat (first | refine blk_drewN ?_ _ | refine blk_drew ?_ | refine blk_alloc ?_ _)); refine blk_put (cs := #[.int .i64 fn, .int .i64 0, .int .i64 0, .slice none 0 0, .int .i64 0, .int .i64 0, .int .i64 0]) ?_ 1 _ rfl; (with_reducible repeat (first | refine blk_drewN ?_ _ | refine blk_drew ?_ | refine blk_alloc ?_ _)); refine blk_put (cs := #[.int .i64 0, .int .i64 0, .int .i64 0, .slice none 0 0, .int .i64 0, .int .i64 0, .int .i64 0]) ?_ 0 _ rfl; (with_reducible repeat (first | refine blk_drewN ?_ _ | refine blk_drew ?_ | refine blk_alloc ?_ _)); exact BK2.out) Try.underlying24 rfl (by kernel_rfl)) rfl ?_
    rw [parseG_yes HCD.out ⟨HM.out, HE.out⟩]
    exact ⟨A, c, rfl, HVC.out, by skip; exact Kd.F_now (by (with_reducible repeat (first | refine Kd.F_alloc ?_ _ | refine Kd.F_drewN ?_ _ | refine Kd.F_drew ?_ | refine Kd.F_far ?_ (fun k hk => hk) _)); exact HV.out), by repeat (first | (with_reducible first | exact HB0.out | apply below_alloc | apply pw_below_drewN | apply below_drew1 | refine below_set ?_ GE2.out | refine below_set ?_ GE4.out | refine below_set ?_ GEL.out) | exact HB0.out)⟩
   ·have HE : Aside0 (¬ reqB fn a1 a2 vs a4 a5 a6 = l0) := ⟨fun h => he (HQQ.out.symm.trans h)⟩
    have fE : Aside0 (PR.bytes_Equal.f q l0 = some false) := ⟨by unfold PR.bytes_Equal.f; rw [str_beq hqb HBY.out, decide_eq_false he]⟩
    clear he hqb HQQ
    refine cz7_ BK4.out ?_; intro hcz8_0 hcz8_1 hcz8_2 hcz8_3 hcz8_4 hcz8_5 hcz8_6 hfz8_0 hfz8_1 hfz8_2 hfz8_3 hfz8_4 hfz8_5 hfz8_6
    have hwc := NB24.out
    have hwd := NB42.out
    go_wp2_with (first | (go_at_call 30; refine (pdu_Bytes.calls KF fn a1 a2 A c vs a4 a5 a6 q 0 _ (by (with_reducible repeat (first | refine Kd.C_alloc ?_ _ | refine Kd.C_drewN ?_ _ | refine Kd.C_drew ?_)); exact Kd.F_now HV.out) HVC.out fB.out).mono ?_; rintro e w8 ⟨vq, rfl, HRq, HBc⟩; have BK4n : Aside0 (w8.heap[gb4]? = some (.cells #[.int .i64 fn, .int .i64 a1, .int .i64 a2, .slice A vs.length c, .int .i64 a4, .int .i64 a5, .int .i64 a6] 24 (0, 0))) := Aside0.mk (blk_below (g := gb4) (bk_ BK4) HBc); have BK2n : Aside0 (w8.heap[gb2]? = some (.cells #[.int .i64 0, .int .i64 0, .int .i64 0, .slice none 0 0, .int .i64 0, .int .i64 0, .int .i64 0] 24 (0, 0))) := Aside0.mk (blk_below (g := gb2) (bk_ BK2) HBc); have HBn := Aside0.mk (below_step (by repeat (first | (with_reducible first | exact HB0.out | apply below_alloc | apply pw_below_drewN | apply below_drew1 | refine below_set ?_ GE2.out | refine below_set ?_ GE4.out | refine below_set ?_ GEL.out) | exact HB0.out)) HBc); have HVn := Aside0.mk (Kd.F_below (by exact HV.out) HBc); obtain ⟨Aq, cq, rfl⟩ := Kd.R_slice HRq; have HQ := Aside0.mk (Kd.R_reads' HRq).2.2; have HQC := Aside0.mk (Kd.R_reads' HRq).2.1; clear HB0 BK2 BK4 HV HRq HBc hcz8_0 hfz8_0 hcz8_1 hfz8_1 hcz8_2 hfz8_2 hcz8_3 hfz8_3 hcz8_4 hfz8_4 hcz8_5 hfz8_5 hcz8_6 hfz8_6; have HB0 := HBn; have BK2 := BK2n; have BK4 := BK4n; have HV := HVn; clear HBn BK2n BK4n HVn; refine cz7_ BK4.out ?_; intro hcz9_0 hcz9_1 hcz9_2 hcz9_3 hcz9_4 hcz9_5 hcz9_6 hfz9_0 hfz9_1 hfz9_2 hfz9_3 hfz9_4 hfz9_5 hfz9_6; refine cz7_ BK2.out ?_; intro hcz2_0 hcz2_1 hcz2_2 hcz2_3 hcz2_4 hcz2_5 hcz2_6 hfz2_0 hfz2_1 hfz2_2 hfz2_3 hfz2_4 hfz2_5 hfz2_6) | (go_at_call 62; refine (PR.bytes_Equal.calls Aq cq q (some ad) c0 l0 false _ (by (with_reducible repeat (first | refine Kd.C_alloc ?_ _ | refine Kd.C_drewN ?_ _ | refine Kd.C_drew ?_)); exact HQ.out) HQC.out (Kd.C_below HR0.out (by repeat (first | (with_reducible first | exact HB0.out | apply below_alloc | apply pw_below_drewN | apply below_drew1 | refine below_set ?_ GE2.out | refine below_set ?_ GE4.out | refine below_set ?_ GEL.out) | exact HB0.out))) HC0.out fE.out).mono ?_; rintro e w' ⟨rfl, ⟨ne, rfl⟩⟩))
    refine bodyPost_ret (results_ct rfl _ _ gb2 24 #[.int .i64 0, .int .i64 0, .int .i64 0, .slice none 0 0, .int .i64 0, .int .i64 0, .int .i64 0] (0, 0) _ rfl (by (with_reducible repeat (first | refine blk_drewN ?_ _ | refine blk_drew ?_ | refine blk_alloc ?_ _)); refine blk_put (cs := #[.int .i64 0, .int .i64 0, .int .i64 0, .slice none 0 0, .int .i64 0, .int .i64 0, .int .i64 0]) ?_ 6 _ rfl; (with_reducible repeat (first | refine blk_drewN ?_ _ | refine blk_drew ?_ | refine blk_alloc ?_ _)); refine blk_put (cs := #[.int .i64 0, .int .i64 0, .int .i64 0, .slice none 0 0, .int .i64 0, .int .i64 0, .int .i64 0]) ?_ 5 _ rfl; (with_reducible repeat (first | refine blk_drewN ?_ _ | refine blk_drew ?_ | refine blk_alloc ?_ _)); refine blk_put (cs := #[.int .i64 0, .int .i64 0, .int .i64 0, .slice none 0 0, .int .i64 0, .int .i64 0, .int .i64 0]) ?_ 4 _ rfl; (with_reducible repeat (first | refine blk_drewN ?_ _ | refine blk_drew ?_ | refine blk_alloc ?_ _)); refine blk_put (cs := #[.int .i64 0, .int .i64 0, .int .i64 0, .slice none 0 0, .int .i64 0, .int .i64 0, .int .i64 0]) ?_ 3 _ rfl; (with_reducible repeat (first | refine blk_drewN ?_ _ | refine blk_drew ?_ | refine blk_alloc ?_ _)); refine blk_put (cs := #[.int .i64 0, .int .i64 0, .int .i64 0, .slice none 0 0, .int .i64 0, .int .i64 0, .int .i64 0]) ?_ 2 _ rfl; (with_reducible repeat (first | refine blk_drewN ?_ _ | refine blk_drew ?_ | refine blk_alloc ?_ _)); refine blk_put (cs := #[.int .i64 0, .int .i64 0, .int .i64 0, .slice none 0 0, .int .i64 0, .int .i64 0, .int .i64 0]) ?_ 1 _ rfl; (with_reducible repeat (first | refine blk_drewN ?_ _ | refine blk_drew ?_ | refine blk_alloc ?_ _)); refine blk_put (cs := #[.int .i64 0, .int .i64 0, .int .i64 0, .slice none 0 0, .int .i64 0, .int .i64 0, .int .i64 0]) ?_ 0 _ rfl; (with_reducible repeat (first | refine blk_drewN ?_ _ | refine blk_drew ?_ | refine blk_alloc ?_ _)); exact BK2.out) Try.underlying24 rfl (by kernel_rfl)) rfl ?_
    rw [parseG_no HCD.out (fun h => HE.out h.2)]
    exact ⟨none, 0, rfl, Nat.le_refl _, Kd.C_nil _ _, by repeat (first | (with_reducible first | exact HB0.out | apply below_alloc | apply pw_below_drewN | apply below_drew1 | refine below_set ?_ GE2.out | refine below_set ?_ GE4.out | refine below_set ?_ GEL.out) | exact HB0.out)⟩
end Go.Proofs.Ytocicifgglkaeaa.ExtP
end

section
namespace Go.Proofs.Ytocicifgglkaeaa.ExtQ
open Go.RowKit Go.Proofs.YtocicifgglkaeaaW.PrintWords Go.Proofs.YtocicifgglkaeaaW.PrintLast Go.Proofs.YtocicifgglkaeaaW.PrintMore Go.Proofs.Ytocicifgglkaeaa.ExtF Go.Proofs.Ytocicifgglkaeaa.ExtP Go.Proofs.Ytocicifgglkaeaa.PP Go.Proofs.Ytocicifgglkaeaa.PQ Go.Proofs.Ytocicifgglkaeaa.ExtM Go.Proofs.Ytocicifgglkaeaa.MathP Go.Proofs.Ytocicifgglkaeaa.Mth
set_option linter.unusedVariables false
set_option linter.unusedSimpArgs false
def pdu_Parse.f (b : List Int) : Option (Int × Int × Int × List Int × Int × Int × Int × Int) :=
 if Bytes b ∧ b.length ≤ 100000 then some (if b.length < 5 then (0, 0, 0, [], 0, 0, 0, 4) else parseG (rd b 0) (rd (wordsOf (b.drop 1)) 0) b (wordsOf (b.drop 1))) else none
set_option maxHeartbeats 8000000 in
set_option maxRecDepth 100000 in
theorem parse_short (A0 : Option Addr) (c0 : Nat) (l0 : List Int) (w : World) (h5 : l0.length < 5) : Calls Try.prog 34 #[.slice A0 l0.length c0] w (ParseOf w (0, 0, 0, [], 0, 0, 0, 4)) := by
 have hu24 := Try.underlying24
 have h5b : decide ((l0.length : Int) < 5) = true := decide_eq_true (by omega)
 have HB0 := Aside0.mk (Below.refl w.heap.size w)
 clear h5
 go_enter Try.func34, Try.ntmps34
 go_wp2_with (first | ((with_reducible refine gate_dst (N := 2) rfl ?_); refine bx_ (N := 2) (cs := #[.int .i64 0, .int .i64 0, .int .i64 0, .slice none 0 0, .int .i64 0, .int .i64 0, .int .i64 0]) (t := 24) ?_; intro gb2 hg w3 hbox HBc; have GE0_gb2 : Aside0 (w.heap.size ≤ gb2) := Aside0.mk (by rw [hg]; exact (below_size (bl0_ HB0))); clear hg; have HB0n := Aside0.mk (below_step (by repeat (first | (with_reducible first | exact HB0.out | apply below_alloc | apply pw_below_drewN | apply below_drew1 | refine below_set ?_ GE0_gb2.out) | exact HB0.out)) HBc); clear HBc HB0; have HB0 := HB0n; clear HB0n; have BK_gb2 := Aside0.mk hbox; clear hbox; refine cz7_ BK_gb2.out ?_; intro hczq1_0 hczq1_1 hczq1_2 hczq1_3 hczq1_4 hczq1_5 hczq1_6 hfzq1_0 hfzq1_1 hfzq1_2 hfzq1_3 hfzq1_4 hfzq1_5 hfzq1_6))
 refine bodyPost_ret (results_ct rfl _ _ gb2 24 #[.int .i64 0, .int .i64 0, .int .i64 0, .slice none 0 0, .int .i64 0, .int .i64 0, .int .i64 0] (0, 0) _ rfl (by (with_reducible repeat (first | refine blk_drewN ?_ _ | refine blk_drew ?_ | refine blk_alloc ?_ _)); refine blk_put (cs := #[.int .i64 0, .int .i64 0, .int .i64 0, .slice none 0 0, .int .i64 0, .int .i64 0, .int .i64 0]) ?_ 6 _ rfl; (with_reducible repeat (first | refine blk_drewN ?_ _ | refine blk_drew ?_ | refine blk_alloc ?_ _)); refine blk_put (cs := #[.int .i64 0, .int .i64 0, .int .i64 0, .slice none 0 0, .int .i64 0, .int .i64 0, .int .i64 0]) ?_ 5 _ rfl; (with_reducible repeat (first | refine blk_drewN ?_ _ | refine blk_drew ?_ | refine blk_alloc ?_ _)); refine blk_put (cs := #[.int .i64 0, .int .i64 0, .int .i64 0, .slice none 0 0, .int .i64 0, .int .i64 0, .int .i64 0]) ?_ 4 _ rfl; (with_reducible repeat (first | refine blk_drewN ?_ _ | refine blk_drew ?_ | refine blk_alloc ?_ _)); refine blk_put (cs := #[.int .i64 0, .int .i64 0, .int .i64 0, .slice none 0 0, .int .i64 0, .int .i64 0, .int .i64 0]) ?_ 3 _ rfl; (with_reducible repeat (first | refine blk_drewN ?_ _ | refine blk_drew ?_ | refine blk_alloc ?_ _)); refine blk_put (cs := #[.int .i64 0, .int .i64 0, .int .i64 0, .slice none 0 0, .int .i64 0, .int .i64 0, .int .i64 0]) ?_ 2 _ rfl; (with_reducible repeat (first | refine blk_drewN ?_ _ | refine blk_drew ?_ | refine blk_alloc ?_ _)); refine blk_put (cs := #[.int .i64 0, .int .i64 0, .int .i64 0, .slice none 0 0, .int .i64 0, .int .i64 0, .int .i64 0]) ?_ 1 _ rfl; (with_reducible repeat (first | refine blk_drewN ?_ _ | refine blk_drew ?_ | refine blk_alloc ?_ _)); refine blk_put (cs := #[.int .i64 0, .int .i64 0, .int .i64 0, .slice none 0 0, .int .i64 0, .int .i64 0, .int .i64 0]) ?_ 0 _ rfl; (with_reducible repeat (first | refine blk_drewN ?_ _ | refine blk_drew ?_ | refine blk_alloc ?_ _)); exact BK_gb2.out) Try.underlying24 rfl (by kernel_rfl)) rfl ?_
 exact ⟨none, 0, rfl, Nat.le_refl _, Kd.C_nil _ _, (by repeat (first | (with_reducible first | exact HB0.out | apply below_alloc | apply pw_below_drewN | apply below_drew1 | refine below_set ?_ GE0_gb2.out) | exact HB0.out))⟩
theorem words_hd (l : List Int) (hb : Bytes l) (h : 4 ≤ l.length) : 2 ≤ (wordsOf l).length ∧ 0 ≤ rd (wordsOf l) 1 ∧ rd (wordsOf l) 1 ≤ 65535 := by
 have hl : 2 ≤ (wordsOf l).length := by rw [wordsOf_len]; omega
 have e : rd (wordsOf l) 1 = 256 * rd l ((2 : Nat) : Int) + rd l ((3 : Nat) : Int) := by
  have : rd (wordsOf l) ((1 : Nat) : Int) = (wordsOf l)[1] := rd_nat 1 (by omega)
  refine this.trans ?_
  simp [wordsOf]
 have h2 := bytes_rd hb ((2 : Nat) : Int)
 have h3 := bytes_rd hb ((3 : Nat) : Int)
 refine ⟨hl, ?_⟩
 rw [e]
 omega
theorem pdu_Parse.calls (A0 : Option Addr) (c0 : Nat) (l0 : List Int) (r1 r2 r3 : Int) (r4 : List Int) (r5 r6 r7 r8 : Int) (w : World) (hr0 : Kd.C (Kd.int .u8) w A0 l0.length l0) (hc0 : l0.length ≤ c0) (h : pdu_Parse.f l0 = some (r1, r2, r3, r4, r5, r6, r7, r8)) :
 Calls Try.prog 34 #[.slice A0 l0.length c0] w fun e w' => ∃ (A : Option Addr) (c : Nat), e = .returned (.tuple #[.agg #[.int .i64 r1, .int .i64 r2, .int .i64 r3, .slice A r4.length c, .int .i64 r5, .int .i64 r6, .int .i64 r7], .int .i64 r8]) ∧ r4.length ≤ c ∧ Kd.C (Kd.int .i64) w' A r4.length r4 ∧ Below w.heap.size w w' := by
 unfold pdu_Parse.f at h
 by_cases hc : Bytes l0 ∧ l0.length ≤ 100000
 ·rw [if_pos hc] at h
  have h := Option.some.inj h
  by_cases h5 : l0.length < 5
  ·rw [if_pos h5] at h
   have := parse_short A0 c0 l0 w h5
   rw [h] at this
   exact this
  ·rw [if_neg h5] at h
   have hd := bytes_drop hc.1 1
   have hw := words_hd (l0.drop 1) hd (by rw [List.length_drop]; omega)
   have hf := bytes_rd hc.1 0
   have := parse_walk (l0.length + 200000) A0 c0 l0 (wordsOf (l0.drop 1)) (rd l0 0) _ _ w hr0 hc0 (by omega) hc.2 hc.1 (by omega) rfl hf.1 hf.2 ⟨pwords_f _ hd (by rw [List.length_drop]; omega) _ (by rw [List.length_drop]; omega)⟩ hw.1 rfl rfl hw.2.1 hw.2.2
   rw [h] at this
   exact this
 ·rw [if_neg hc] at h
  cases h
theorem aw1 : Aside0 (pdu_Bytes.f 60 3 16 2 [] 0 0 0 = some ([3, 0, 16, 0, 2], 0)) := ⟨by decide +kernel⟩
theorem aw2 : Aside0 (PR.pdu_AnswerParse.f 60 3 16 2 [] 0 0 0 [3, 4, 0, 1, 0, 2] = some ([1, 2], 0, 0)) := ⟨by decide +kernel⟩
theorem aw3 : Aside0 (PR.pdu_AnswerParse.f 60 3 16 2 [] 0 0 0 [131, 2] = some ([], 2, 0)) := ⟨by decide +kernel⟩
theorem aw4 : Aside0 (pdu_Parse.f [5, 0, 1, 0, 1] = some (0, 0, 0, [], 0, 0, 0, 4)) := ⟨by kernel_rfl⟩
theorem aw5 : Aside0 (PR.basculeref01_Ints.f 60 [1, 2] [1, 2] = some true) := ⟨by decide +kernel⟩
theorem lit_C (W : World) (xs : List Int) (h : xs.length ≤ 9223372036854775807) : Kd.C (Kd.int .u8) (W.alloc (.cells (nums .u8 xs).toArray 5)) (some ⟨W.heap.size, 0, none⟩) xs.length xs := by
 have h := own_lit W 0 5 .u8 xs (by omega) h
 obtain ⟨A, c, e, hr⟩ := own_reads h
 injection e with e1 e2 e3
 subst e1
 exact Kd.C_of_reads (d := (0 : Int)) (h1 := fun _ => rfl) hr
theorem litI_C (W : World) (xs : List Int) (h : xs.length ≤ 9223372036854775807) : Kd.C (Kd.int .i64) (W.alloc (.cells (nums .i64 xs).toArray 3)) (some ⟨W.heap.size, 0, none⟩) xs.length xs := by
 have h := own_lit W 0 3 .i64 xs (by omega) h
 obtain ⟨A, c, e, hr⟩ := own_reads h
 injection e with e1 e2 e3
 subst e1
 exact Kd.C_of_reads (d := (0 : Int)) (h1 := fun _ => rfl) hr
theorem ne_new {W : World} {g g2 : Nat} {o : Obj} (h : W.heap[g]? = some o) (hg : g2 = W.heap.size) : g ≠ g2 := by
 have := blk_lt h
 omega
set_option maxHeartbeats 8000000 in
set_option maxRecDepth 100000 in
theorem awake_true (w : World) : Calls Try.prog 32 #[] w fun e w' => e = .returned (.bool true) ∧ Below w.heap.size w w' := by
 have hu24 := Try.underlying24
 have hu30 := Try.underlying30
 have HB0 := Aside0.mk (Below.refl w.heap.size w)
 go_enter Try.func32, Try.ntmps32
 go_upto_region 4 with (first | ((with_reducible refine gate_dst (N := 1) rfl ?_); refine bx_ (N := 1) (cs := #[.int .i64 0, .int .i64 0, .int .i64 0, .slice none 0 0, .int .i64 0, .int .i64 0, .int .i64 0]) (t := 24) ?_; intro gb1 hg w1 hbox HBc; have GE0_gb1 : Aside0 (w.heap.size ≤ gb1) := Aside0.mk (by rw [hg]; exact (below_size (bl0_ HB0))); clear hg; have HB0n := Aside0.mk (below_step (by repeat (first | (with_reducible first | exact HB0.out | apply below_alloc | apply pw_below_drewN | apply below_drew1 | refine below_set ?_ GE0_gb1.out) | exact HB0.out)) HBc); clear HBc HB0; have HB0 := HB0n; clear HB0n; have BK_gb1 := Aside0.mk hbox; clear hbox; refine cz7_ BK_gb1.out ?_; intro hczq1_0 hczq1_1 hczq1_2 hczq1_3 hczq1_4 hczq1_5 hczq1_6 hfzq1_0 hfzq1_1 hfzq1_2 hfzq1_3 hfzq1_4 hfzq1_5 hfzq1_6) | (go_at_call 30; refine (pdu_Bytes.calls 60 3 16 2 none 0 [] 0 0 0 [3, 0, 16, 0, 2] 0 _ (Kd.C_nil _ _) (Nat.le_refl _) aw1.out).mono ?_; rintro e w2 ⟨v, rfl, HR_b, HBc⟩; have BKn_gb1 : Aside0 (w2.heap[gb1]? = some (.cells #[.int .i64 3, .int .i64 16, .int .i64 2, .slice none 0 0, .int .i64 0, .int .i64 0, .int .i64 0] 24 (0, 0))) := Aside0.mk (blk_below (g := gb1) (by (with_reducible repeat (first | refine blk_drewN ?_ _ | refine blk_drew ?_ | refine blk_alloc ?_ _)); refine blk_put (cs := #[.int .i64 3, .int .i64 16, .int .i64 2, .slice none 0 0, .int .i64 0, .int .i64 0, .int .i64 0]) ?_ 6 _ rfl; (with_reducible repeat (first | refine blk_drewN ?_ _ | refine blk_drew ?_ | refine blk_alloc ?_ _)); refine blk_put (cs := #[.int .i64 3, .int .i64 16, .int .i64 2, .slice none 0 0, .int .i64 0, .int .i64 0, .int .i64 0]) ?_ 5 _ rfl; (with_reducible repeat (first | refine blk_drewN ?_ _ | refine blk_drew ?_ | refine blk_alloc ?_ _)); refine blk_put (cs := #[.int .i64 3, .int .i64 16, .int .i64 2, .slice none 0 0, .int .i64 0, .int .i64 0, .int .i64 0]) ?_ 4 _ rfl; (with_reducible repeat (first | refine blk_drewN ?_ _ | refine blk_drew ?_ | refine blk_alloc ?_ _)); refine blk_put (cs := #[.int .i64 3, .int .i64 16, .int .i64 2, .slice none 0 0, .int .i64 0, .int .i64 0, .int .i64 0]) ?_ 3 _ rfl; (with_reducible repeat (first | refine blk_drewN ?_ _ | refine blk_drew ?_ | refine blk_alloc ?_ _)); refine blk_put (cs := #[.int .i64 3, .int .i64 16, .int .i64 0, .slice none 0 0, .int .i64 0, .int .i64 0, .int .i64 0]) ?_ 2 _ rfl; (with_reducible repeat (first | refine blk_drewN ?_ _ | refine blk_drew ?_ | refine blk_alloc ?_ _)); refine blk_put (cs := #[.int .i64 3, .int .i64 0, .int .i64 0, .slice none 0 0, .int .i64 0, .int .i64 0, .int .i64 0]) ?_ 1 _ rfl; (with_reducible repeat (first | refine blk_drewN ?_ _ | refine blk_drew ?_ | refine blk_alloc ?_ _)); refine blk_put (cs := #[.int .i64 0, .int .i64 0, .int .i64 0, .slice none 0 0, .int .i64 0, .int .i64 0, .int .i64 0]) ?_ 0 _ rfl; (with_reducible repeat (first | refine blk_drewN ?_ _ | refine blk_drew ?_ | refine blk_alloc ?_ _)); exact BK_gb1.out) HBc); have HB0n := Aside0.mk (below_step (by repeat (first | (with_reducible first | exact HB0.out | apply below_alloc | apply pw_below_drewN | apply below_drew1 | refine below_set ?_ GE0_gb1.out) | exact HB0.out)) HBc); clear HBc BK_gb1 HB0 hczq1_0 hfzq1_0 hczq1_1 hfzq1_1 hczq1_2 hfzq1_2 hczq1_3 hfzq1_3 hczq1_4 hfzq1_4 hczq1_5 hfzq1_5 hczq1_6 hfzq1_6; have BK_gb1 := BKn_gb1; have HB0 := HB0n; clear BKn_gb1 HB0n; have HB_b := Aside0.mk (Below.refl w2.heap.size w2); obtain ⟨A_b, c_b, rfl⟩ := Kd.R_slice HR_b; have HV_b := Aside0.mk (Kd.R_reads' HR_b).2.2; have HC_b := Aside0.mk (Kd.R_reads' HR_b).2.1; clear HR_b; refine cz7_ BK_gb1.out ?_; intro hczq2_0 hczq2_1 hczq2_2 hczq2_3 hczq2_4 hczq2_5 hczq2_6 hfzq2_0 hfzq2_1 hfzq2_2 hfzq2_3 hfzq2_4 hfzq2_5 hfzq2_6) | (go_at_call 39; refine (PR.pdu_AnswerParse.calls 60 3 16 2 none 0 [] 0 0 0 (some _) 6 [3, 4, 0, 1, 0, 2] [1, 2] 0 0 _ (Kd.C_nil _ _) (Nat.le_refl _) (lit_C _ [3, 4, 0, 1, 0, 2] (by decide)) (Nat.le_refl _) aw2.out).mono ?_; rintro e w3 ⟨v, rfl, HR_a, HBc⟩; have BKn_gb1 : Aside0 (w3.heap[gb1]? = some (.cells #[.int .i64 3, .int .i64 16, .int .i64 2, .slice none 0 0, .int .i64 0, .int .i64 0, .int .i64 0] 24 (0, 0))) := Aside0.mk (blk_below (g := gb1) (bk_ BK_gb1) HBc); have HB0n := Aside0.mk (below_step (by repeat (first | (with_reducible first | exact HB0.out | apply below_alloc | apply pw_below_drewN | apply below_drew1 | refine below_set ?_ GE0_gb1.out) | exact HB0.out)) HBc); have HB_bn := Aside0.mk (below_step (bl0_ HB_b) HBc); clear HBc BK_gb1 HB0 HB_b hczq2_0 hfzq2_0 hczq2_1 hfzq2_1 hczq2_2 hfzq2_2 hczq2_3 hfzq2_3 hczq2_4 hfzq2_4 hczq2_5 hfzq2_5 hczq2_6 hfzq2_6; have BK_gb1 := BKn_gb1; have HB0 := HB0n; have HB_b := HB_bn; clear BKn_gb1 HB0n HB_bn; have HB_a := Aside0.mk (Below.refl w3.heap.size w3); obtain ⟨A_a, c_a, rfl⟩ := Kd.R_slice HR_a; have HV_a := Aside0.mk (Kd.R_reads' HR_a).2.2; have HC_a := Aside0.mk (Kd.R_reads' HR_a).2.1; clear HR_a; refine cz7_ BK_gb1.out ?_; intro hczq3_0 hczq3_1 hczq3_2 hczq3_3 hczq3_4 hczq3_5 hczq3_6 hfzq3_0 hfzq3_1 hfzq3_2 hfzq3_3 hfzq3_4 hfzq3_5 hfzq3_6) | ((with_reducible refine gate_dst (N := 4) rfl ?_); refine bx_ (N := 4) (cs := #[.slice none 0 0, .int .i64 0]) (t := 30) ?_; intro gb4 hg w4 hbox HBc; have GE0_gb4 : Aside0 (w.heap.size ≤ gb4) := Aside0.mk (by rw [hg]; exact (below_size (by repeat (first | (with_reducible first | exact HB0.out | apply below_alloc | apply pw_below_drewN | apply below_drew1 | refine below_set ?_ GE0_gb1.out) | exact HB0.out)))); have GEb_gb4 : Aside0 (w2.heap.size ≤ gb4) := Aside0.mk (by rw [hg]; exact (below_size (bl0_ HB_b))); have GEa_gb4 : Aside0 (w3.heap.size ≤ gb4) := Aside0.mk (by rw [hg]; exact (below_size (bl0_ HB_a))); have NB_gb1_gb4 : Aside0 (gb1 ≠ gb4) := Aside0.mk (ne_new (bk_ BK_gb1) hg); have NB_gb4_gb1 : Aside0 (gb4 ≠ gb1) := Aside0.mk (fun e => NB_gb1_gb4.out e.symm); clear hg; have BKn_gb1 : Aside0 (w4.heap[gb1]? = some (.cells #[.int .i64 3, .int .i64 16, .int .i64 2, .slice none 0 0, .int .i64 0, .int .i64 0, .int .i64 0] 24 (0, 0))) := Aside0.mk (blk_below (g := gb1) (bk_ BK_gb1) HBc); have HB0n := Aside0.mk (below_step (by repeat (first | (with_reducible first | exact HB0.out | apply below_alloc | apply pw_below_drewN | apply below_drew1 | refine below_set ?_ GE0_gb1.out | refine below_set ?_ GE0_gb4.out) | exact HB0.out)) HBc); have HB_bn := Aside0.mk (below_step (by repeat (first | (with_reducible first | exact HB_b.out | apply below_alloc | apply pw_below_drewN | apply below_drew1 | refine below_set ?_ GEb_gb4.out) | exact HB_b.out)) HBc); have HB_an := Aside0.mk (below_step (by repeat (first | (with_reducible first | exact HB_a.out | apply below_alloc | apply pw_below_drewN | apply below_drew1 | refine below_set ?_ GEa_gb4.out) | exact HB_a.out)) HBc); clear HBc BK_gb1 HB0 HB_b HB_a hczq3_0 hfzq3_0 hczq3_1 hfzq3_1 hczq3_2 hfzq3_2 hczq3_3 hfzq3_3 hczq3_4 hfzq3_4 hczq3_5 hfzq3_5 hczq3_6 hfzq3_6; have BK_gb1 := BKn_gb1; have HB0 := HB0n; have HB_b := HB_bn; have HB_a := HB_an; clear BKn_gb1 HB0n HB_bn HB_an; have BK_gb4 := Aside0.mk hbox; clear hbox; refine cz7_ BK_gb1.out ?_; intro hczq4_0 hczq4_1 hczq4_2 hczq4_3 hczq4_4 hczq4_5 hczq4_6 hfzq4_0 hfzq4_1 hfzq4_2 hfzq4_3 hfzq4_4 hfzq4_5 hfzq4_6; refine cz2_ BK_gb4.out ?_; intro hczq5_0 hczq5_1 hfzq5_0 hfzq5_1; have hnq6 := NB_gb1_gb4.out; have hmq6 := NB_gb4_gb1.out))
 have BKn_gb1 : Aside0 (((w4.setCell ⟨gb4, 0, none⟩ (.slice A_a 2 c_a)).setCell ⟨gb4, 1, none⟩ (.int .i64 0)).heap[gb1]? = some (.cells #[.int .i64 3, .int .i64 16, .int .i64 2, .slice none 0 0, .int .i64 0, .int .i64 0, .int .i64 0] 24 (0, 0))) := Aside0.mk (by (with_reducible repeat (first | refine blk_drewN ?_ _ | refine blk_drew ?_ | refine blk_alloc ?_ _)); refine blk_far ?_ NB_gb1_gb4.out _; (with_reducible repeat (first | refine blk_drewN ?_ _ | refine blk_drew ?_ | refine blk_alloc ?_ _)); refine blk_far ?_ NB_gb1_gb4.out _; (with_reducible repeat (first | refine blk_drewN ?_ _ | refine blk_drew ?_ | refine blk_alloc ?_ _)); exact BK_gb1.out)
 have BKn_gb4 : Aside0 (((w4.setCell ⟨gb4, 0, none⟩ (.slice A_a 2 c_a)).setCell ⟨gb4, 1, none⟩ (.int .i64 0)).heap[gb4]? = some (.cells #[.slice A_a 2 c_a, .int .i64 0] 30 (0, 0))) := Aside0.mk (by (with_reducible repeat (first | refine blk_drewN ?_ _ | refine blk_drew ?_ | refine blk_alloc ?_ _)); refine blk_put (cs := #[.slice A_a 2 c_a, .int .i64 0]) ?_ 1 _ rfl; (with_reducible repeat (first | refine blk_drewN ?_ _ | refine blk_drew ?_ | refine blk_alloc ?_ _)); refine blk_put (cs := #[.slice none 0 0, .int .i64 0]) ?_ 0 _ rfl; (with_reducible repeat (first | refine blk_drewN ?_ _ | refine blk_drew ?_ | refine blk_alloc ?_ _)); exact BK_gb4.out)
 have HB0n : Aside0 (Below w.heap.size w ((w4.setCell ⟨gb4, 0, none⟩ (.slice A_a 2 c_a)).setCell ⟨gb4, 1, none⟩ (.int .i64 0))) := Aside0.mk (by repeat (first | (with_reducible first | exact HB0.out | apply below_alloc | apply pw_below_drewN | apply below_drew1 | refine below_set ?_ GE0_gb1.out | refine below_set ?_ GE0_gb4.out) | exact HB0.out))
 have HB_bn : Aside0 (Below w2.heap.size w2 ((w4.setCell ⟨gb4, 0, none⟩ (.slice A_a 2 c_a)).setCell ⟨gb4, 1, none⟩ (.int .i64 0))) := Aside0.mk (by repeat (first | (with_reducible first | exact HB_b.out | apply below_alloc | apply pw_below_drewN | apply below_drew1 | refine below_set ?_ GEb_gb4.out) | exact HB_b.out))
 have HB_an : Aside0 (Below w3.heap.size w3 ((w4.setCell ⟨gb4, 0, none⟩ (.slice A_a 2 c_a)).setCell ⟨gb4, 1, none⟩ (.int .i64 0))) := Aside0.mk (by repeat (first | (with_reducible first | exact HB_a.out | apply below_alloc | apply pw_below_drewN | apply below_drew1 | refine below_set ?_ GEa_gb4.out) | exact HB_a.out))
 clear BK_gb1 BK_gb4 HB0 HB_b HB_a hczq4_0 hfzq4_0 hczq4_1 hfzq4_1 hczq4_2 hfzq4_2 hczq4_3 hfzq4_3 hczq4_4 hfzq4_4 hczq4_5 hfzq4_5 hczq4_6 hfzq4_6 hczq5_0 hfzq5_0 hczq5_1 hfzq5_1 hnq6 hmq6
 have BK_gb1 := BKn_gb1
 have BK_gb4 := BKn_gb4
 have HB0 := HB0n
 have HB_b := HB_bn
 have HB_a := HB_an
 clear BKn_gb1 BKn_gb4 HB0n HB_bn HB_an
 generalize ((w4.setCell ⟨gb4, 0, none⟩ (.slice A_a 2 c_a)).setCell ⟨gb4, 1, none⟩ (.int .i64 0)) = w5 at BK_gb1 BK_gb4 HB0 HB_b HB_a ⊢
 refine cz7_ BK_gb1.out ?_; intro hczq7_0 hczq7_1 hczq7_2 hczq7_3 hczq7_4 hczq7_5 hczq7_6 hfzq7_0 hfzq7_1 hfzq7_2 hfzq7_3 hfzq7_4 hfzq7_5 hfzq7_6
 refine cz2_ BK_gb4.out ?_; intro hczq8_0 hczq8_1 hfzq8_0 hfzq8_1
 have hnq9 := NB_gb1_gb4.out; have hmq9 := NB_gb4_gb1.out
 go_upto_region 5 with (first | (go_at_call 39; refine (PR.pdu_AnswerParse.calls 60 3 16 2 none 0 [] 0 0 0 (some _) 2 [131, 2] [] 2 0 _ (Kd.C_nil _ _) (Nat.le_refl _) (lit_C _ [131, 2] (by decide)) (Nat.le_refl _) aw3.out).mono ?_; rintro e w6 ⟨v, rfl, HR_c, HBc⟩; have BKn_gb1 : Aside0 (w6.heap[gb1]? = some (.cells #[.int .i64 3, .int .i64 16, .int .i64 2, .slice none 0 0, .int .i64 0, .int .i64 0, .int .i64 0] 24 (0, 0))) := Aside0.mk (blk_below (g := gb1) (bk_ BK_gb1) HBc); have BKn_gb4 : Aside0 (w6.heap[gb4]? = some (.cells #[.slice A_a 2 c_a, .int .i64 0] 30 (0, 0))) := Aside0.mk (blk_below (g := gb4) (bk_ BK_gb4) HBc); have HB0n := Aside0.mk (below_step (by repeat (first | (with_reducible first | exact HB0.out | apply below_alloc | apply pw_below_drewN | apply below_drew1 | refine below_set ?_ GE0_gb1.out | refine below_set ?_ GE0_gb4.out) | exact HB0.out)) HBc); have HB_bn := Aside0.mk (below_step (by repeat (first | (with_reducible first | exact HB_b.out | apply below_alloc | apply pw_below_drewN | apply below_drew1 | refine below_set ?_ GEb_gb4.out) | exact HB_b.out)) HBc); have HB_an := Aside0.mk (below_step (by repeat (first | (with_reducible first | exact HB_a.out | apply below_alloc | apply pw_below_drewN | apply below_drew1 | refine below_set ?_ GEa_gb4.out) | exact HB_a.out)) HBc); clear HBc BK_gb1 BK_gb4 HB0 HB_b HB_a hczq7_0 hfzq7_0 hczq7_1 hfzq7_1 hczq7_2 hfzq7_2 hczq7_3 hfzq7_3 hczq7_4 hfzq7_4 hczq7_5 hfzq7_5 hczq7_6 hfzq7_6 hczq8_0 hfzq8_0 hczq8_1 hfzq8_1 hnq9 hmq9; have BK_gb1 := BKn_gb1; have BK_gb4 := BKn_gb4; have HB0 := HB0n; have HB_b := HB_bn; have HB_a := HB_an; clear BKn_gb1 BKn_gb4 HB0n HB_bn HB_an; have HB_c := Aside0.mk (Below.refl w6.heap.size w6); obtain ⟨A_c, c_c, rfl⟩ := Kd.R_slice HR_c; have HV_c := Aside0.mk (Kd.R_reads' HR_c).2.2; have HC_c := Aside0.mk (Kd.R_reads' HR_c).2.1; clear HR_c; refine cz7_ BK_gb1.out ?_; intro hczq10_0 hczq10_1 hczq10_2 hczq10_3 hczq10_4 hczq10_5 hczq10_6 hfzq10_0 hfzq10_1 hfzq10_2 hfzq10_3 hfzq10_4 hfzq10_5 hfzq10_6; refine cz2_ BK_gb4.out ?_; intro hczq11_0 hczq11_1 hfzq11_0 hfzq11_1; have hnq12 := NB_gb1_gb4.out; have hmq12 := NB_gb4_gb1.out) | ((with_reducible refine gate_dst (N := 6) rfl ?_); refine bx_ (N := 6) (cs := #[.slice none 0 0, .int .i64 0]) (t := 30) ?_; intro gb6 hg w7 hbox HBc; have GE0_gb6 : Aside0 (w.heap.size ≤ gb6) := Aside0.mk (by rw [hg]; exact (below_size (by repeat (first | (with_reducible first | exact HB0.out | apply below_alloc | apply pw_below_drewN | apply below_drew1 | refine below_set ?_ GE0_gb1.out | refine below_set ?_ GE0_gb4.out) | exact HB0.out)))); have GEb_gb6 : Aside0 (w2.heap.size ≤ gb6) := Aside0.mk (by rw [hg]; exact (below_size (by repeat (first | (with_reducible first | exact HB_b.out | apply below_alloc | apply pw_below_drewN | apply below_drew1 | refine below_set ?_ GEb_gb4.out) | exact HB_b.out)))); have GEa_gb6 : Aside0 (w3.heap.size ≤ gb6) := Aside0.mk (by rw [hg]; exact (below_size (by repeat (first | (with_reducible first | exact HB_a.out | apply below_alloc | apply pw_below_drewN | apply below_drew1 | refine below_set ?_ GEa_gb4.out) | exact HB_a.out)))); have GEc_gb6 : Aside0 (w6.heap.size ≤ gb6) := Aside0.mk (by rw [hg]; exact (below_size (bl0_ HB_c))); have NB_gb1_gb6 : Aside0 (gb1 ≠ gb6) := Aside0.mk (ne_new (bk_ BK_gb1) hg); have NB_gb6_gb1 : Aside0 (gb6 ≠ gb1) := Aside0.mk (fun e => NB_gb1_gb6.out e.symm); have NB_gb4_gb6 : Aside0 (gb4 ≠ gb6) := Aside0.mk (ne_new (bk_ BK_gb4) hg); have NB_gb6_gb4 : Aside0 (gb6 ≠ gb4) := Aside0.mk (fun e => NB_gb4_gb6.out e.symm); clear hg; have BKn_gb1 : Aside0 (w7.heap[gb1]? = some (.cells #[.int .i64 3, .int .i64 16, .int .i64 2, .slice none 0 0, .int .i64 0, .int .i64 0, .int .i64 0] 24 (0, 0))) := Aside0.mk (blk_below (g := gb1) (bk_ BK_gb1) HBc); have BKn_gb4 : Aside0 (w7.heap[gb4]? = some (.cells #[.slice A_a 2 c_a, .int .i64 0] 30 (0, 0))) := Aside0.mk (blk_below (g := gb4) (bk_ BK_gb4) HBc); have HB0n := Aside0.mk (below_step (by repeat (first | (with_reducible first | exact HB0.out | apply below_alloc | apply pw_below_drewN | apply below_drew1 | refine below_set ?_ GE0_gb1.out | refine below_set ?_ GE0_gb4.out | refine below_set ?_ GE0_gb6.out) | exact HB0.out)) HBc); have HB_bn := Aside0.mk (below_step (by repeat (first | (with_reducible first | exact HB_b.out | apply below_alloc | apply pw_below_drewN | apply below_drew1 | refine below_set ?_ GEb_gb4.out | refine below_set ?_ GEb_gb6.out) | exact HB_b.out)) HBc); have HB_an := Aside0.mk (below_step (by repeat (first | (with_reducible first | exact HB_a.out | apply below_alloc | apply pw_below_drewN | apply below_drew1 | refine below_set ?_ GEa_gb4.out | refine below_set ?_ GEa_gb6.out) | exact HB_a.out)) HBc); have HB_cn := Aside0.mk (below_step (by repeat (first | (with_reducible first | exact HB_c.out | apply below_alloc | apply pw_below_drewN | apply below_drew1 | refine below_set ?_ GEc_gb6.out) | exact HB_c.out)) HBc); clear HBc BK_gb1 BK_gb4 HB0 HB_b HB_a HB_c hczq10_0 hfzq10_0 hczq10_1 hfzq10_1 hczq10_2 hfzq10_2 hczq10_3 hfzq10_3 hczq10_4 hfzq10_4 hczq10_5 hfzq10_5 hczq10_6 hfzq10_6 hczq11_0 hfzq11_0 hczq11_1 hfzq11_1 hnq12 hmq12; have BK_gb1 := BKn_gb1; have BK_gb4 := BKn_gb4; have HB0 := HB0n; have HB_b := HB_bn; have HB_a := HB_an; have HB_c := HB_cn; clear BKn_gb1 BKn_gb4 HB0n HB_bn HB_an HB_cn; have BK_gb6 := Aside0.mk hbox; clear hbox; refine cz7_ BK_gb1.out ?_; intro hczq13_0 hczq13_1 hczq13_2 hczq13_3 hczq13_4 hczq13_5 hczq13_6 hfzq13_0 hfzq13_1 hfzq13_2 hfzq13_3 hfzq13_4 hfzq13_5 hfzq13_6; refine cz2_ BK_gb4.out ?_; intro hczq14_0 hczq14_1 hfzq14_0 hfzq14_1; refine cz2_ BK_gb6.out ?_; intro hczq15_0 hczq15_1 hfzq15_0 hfzq15_1; have hnq16 := NB_gb1_gb4.out; have hmq16 := NB_gb4_gb1.out; have hnq17 := NB_gb1_gb6.out; have hmq17 := NB_gb6_gb1.out; have hnq18 := NB_gb4_gb6.out; have hmq18 := NB_gb6_gb4.out))
 have BKn_gb1 : Aside0 (((w7.setCell ⟨gb6, 0, none⟩ (.slice A_c 0 c_c)).setCell ⟨gb6, 1, none⟩ (.int .i64 2)).heap[gb1]? = some (.cells #[.int .i64 3, .int .i64 16, .int .i64 2, .slice none 0 0, .int .i64 0, .int .i64 0, .int .i64 0] 24 (0, 0))) := Aside0.mk (by (with_reducible repeat (first | refine blk_drewN ?_ _ | refine blk_drew ?_ | refine blk_alloc ?_ _)); refine blk_far ?_ NB_gb1_gb6.out _; (with_reducible repeat (first | refine blk_drewN ?_ _ | refine blk_drew ?_ | refine blk_alloc ?_ _)); refine blk_far ?_ NB_gb1_gb6.out _; (with_reducible repeat (first | refine blk_drewN ?_ _ | refine blk_drew ?_ | refine blk_alloc ?_ _)); exact BK_gb1.out)
 have BKn_gb4 : Aside0 (((w7.setCell ⟨gb6, 0, none⟩ (.slice A_c 0 c_c)).setCell ⟨gb6, 1, none⟩ (.int .i64 2)).heap[gb4]? = some (.cells #[.slice A_a 2 c_a, .int .i64 0] 30 (0, 0))) := Aside0.mk (by (with_reducible repeat (first | refine blk_drewN ?_ _ | refine blk_drew ?_ | refine blk_alloc ?_ _)); refine blk_far ?_ NB_gb4_gb6.out _; (with_reducible repeat (first | refine blk_drewN ?_ _ | refine blk_drew ?_ | refine blk_alloc ?_ _)); refine blk_far ?_ NB_gb4_gb6.out _; (with_reducible repeat (first | refine blk_drewN ?_ _ | refine blk_drew ?_ | refine blk_alloc ?_ _)); exact BK_gb4.out)
 have BKn_gb6 : Aside0 (((w7.setCell ⟨gb6, 0, none⟩ (.slice A_c 0 c_c)).setCell ⟨gb6, 1, none⟩ (.int .i64 2)).heap[gb6]? = some (.cells #[.slice A_c 0 c_c, .int .i64 2] 30 (0, 0))) := Aside0.mk (by (with_reducible repeat (first | refine blk_drewN ?_ _ | refine blk_drew ?_ | refine blk_alloc ?_ _)); refine blk_put (cs := #[.slice A_c 0 c_c, .int .i64 0]) ?_ 1 _ rfl; (with_reducible repeat (first | refine blk_drewN ?_ _ | refine blk_drew ?_ | refine blk_alloc ?_ _)); refine blk_put (cs := #[.slice none 0 0, .int .i64 0]) ?_ 0 _ rfl; (with_reducible repeat (first | refine blk_drewN ?_ _ | refine blk_drew ?_ | refine blk_alloc ?_ _)); exact BK_gb6.out)
 have HB0n : Aside0 (Below w.heap.size w ((w7.setCell ⟨gb6, 0, none⟩ (.slice A_c 0 c_c)).setCell ⟨gb6, 1, none⟩ (.int .i64 2))) := Aside0.mk (by repeat (first | (with_reducible first | exact HB0.out | apply below_alloc | apply pw_below_drewN | apply below_drew1 | refine below_set ?_ GE0_gb1.out | refine below_set ?_ GE0_gb4.out | refine below_set ?_ GE0_gb6.out) | exact HB0.out))
 have HB_bn : Aside0 (Below w2.heap.size w2 ((w7.setCell ⟨gb6, 0, none⟩ (.slice A_c 0 c_c)).setCell ⟨gb6, 1, none⟩ (.int .i64 2))) := Aside0.mk (by repeat (first | (with_reducible first | exact HB_b.out | apply below_alloc | apply pw_below_drewN | apply below_drew1 | refine below_set ?_ GEb_gb4.out | refine below_set ?_ GEb_gb6.out) | exact HB_b.out))
 have HB_an : Aside0 (Below w3.heap.size w3 ((w7.setCell ⟨gb6, 0, none⟩ (.slice A_c 0 c_c)).setCell ⟨gb6, 1, none⟩ (.int .i64 2))) := Aside0.mk (by repeat (first | (with_reducible first | exact HB_a.out | apply below_alloc | apply pw_below_drewN | apply below_drew1 | refine below_set ?_ GEa_gb4.out | refine below_set ?_ GEa_gb6.out) | exact HB_a.out))
 have HB_cn : Aside0 (Below w6.heap.size w6 ((w7.setCell ⟨gb6, 0, none⟩ (.slice A_c 0 c_c)).setCell ⟨gb6, 1, none⟩ (.int .i64 2))) := Aside0.mk (by repeat (first | (with_reducible first | exact HB_c.out | apply below_alloc | apply pw_below_drewN | apply below_drew1 | refine below_set ?_ GEc_gb6.out) | exact HB_c.out))
 clear BK_gb1 BK_gb4 BK_gb6 HB0 HB_b HB_a HB_c hczq13_0 hfzq13_0 hczq13_1 hfzq13_1 hczq13_2 hfzq13_2 hczq13_3 hfzq13_3 hczq13_4 hfzq13_4 hczq13_5 hfzq13_5 hczq13_6 hfzq13_6 hczq14_0 hfzq14_0 hczq14_1 hfzq14_1 hczq15_0 hfzq15_0 hczq15_1 hfzq15_1 hnq16 hmq16 hnq17 hmq17 hnq18 hmq18
 have BK_gb1 := BKn_gb1
 have BK_gb4 := BKn_gb4
 have BK_gb6 := BKn_gb6
 have HB0 := HB0n
 have HB_b := HB_bn
 have HB_a := HB_an
 have HB_c := HB_cn
 clear BKn_gb1 BKn_gb4 BKn_gb6 HB0n HB_bn HB_an HB_cn
 generalize ((w7.setCell ⟨gb6, 0, none⟩ (.slice A_c 0 c_c)).setCell ⟨gb6, 1, none⟩ (.int .i64 2)) = w8 at BK_gb1 BK_gb4 BK_gb6 HB0 HB_b HB_a HB_c ⊢
 refine cz7_ BK_gb1.out ?_; intro hczq19_0 hczq19_1 hczq19_2 hczq19_3 hczq19_4 hczq19_5 hczq19_6 hfzq19_0 hfzq19_1 hfzq19_2 hfzq19_3 hfzq19_4 hfzq19_5 hfzq19_6
 refine cz2_ BK_gb4.out ?_; intro hczq20_0 hczq20_1 hfzq20_0 hfzq20_1
 refine cz2_ BK_gb6.out ?_; intro hczq21_0 hczq21_1 hfzq21_0 hfzq21_1
 have hnq22 := NB_gb1_gb4.out; have hmq22 := NB_gb4_gb1.out
 have hnq23 := NB_gb1_gb6.out; have hmq23 := NB_gb6_gb1.out
 have hnq24 := NB_gb4_gb6.out; have hmq24 := NB_gb6_gb4.out
 go_upto_region 6 with (first | (go_at_call 34; refine (pdu_Parse.calls (some _) 5 [5, 0, 1, 0, 1] 0 0 0 [] 0 0 0 4 _ (lit_C _ [5, 0, 1, 0, 1] (by decide)) (Nat.le_refl _) aw4.out).mono ?_; rintro e w9 ⟨A_d, c_d, rfl, HC0_d, HV0_d, HBc⟩; have BKn_gb1 : Aside0 (w9.heap[gb1]? = some (.cells #[.int .i64 3, .int .i64 16, .int .i64 2, .slice none 0 0, .int .i64 0, .int .i64 0, .int .i64 0] 24 (0, 0))) := Aside0.mk (blk_below (g := gb1) (bk_ BK_gb1) HBc); have BKn_gb4 : Aside0 (w9.heap[gb4]? = some (.cells #[.slice A_a 2 c_a, .int .i64 0] 30 (0, 0))) := Aside0.mk (blk_below (g := gb4) (bk_ BK_gb4) HBc); have BKn_gb6 : Aside0 (w9.heap[gb6]? = some (.cells #[.slice A_c 0 c_c, .int .i64 2] 30 (0, 0))) := Aside0.mk (blk_below (g := gb6) (bk_ BK_gb6) HBc); have HB0n := Aside0.mk (below_step (by repeat (first | (with_reducible first | exact HB0.out | apply below_alloc | apply pw_below_drewN | apply below_drew1 | refine below_set ?_ GE0_gb1.out | refine below_set ?_ GE0_gb4.out | refine below_set ?_ GE0_gb6.out) | exact HB0.out)) HBc); have HB_bn := Aside0.mk (below_step (by repeat (first | (with_reducible first | exact HB_b.out | apply below_alloc | apply pw_below_drewN | apply below_drew1 | refine below_set ?_ GEb_gb4.out | refine below_set ?_ GEb_gb6.out) | exact HB_b.out)) HBc); have HB_an := Aside0.mk (below_step (by repeat (first | (with_reducible first | exact HB_a.out | apply below_alloc | apply pw_below_drewN | apply below_drew1 | refine below_set ?_ GEa_gb4.out | refine below_set ?_ GEa_gb6.out) | exact HB_a.out)) HBc); have HB_cn := Aside0.mk (below_step (by repeat (first | (with_reducible first | exact HB_c.out | apply below_alloc | apply pw_below_drewN | apply below_drew1 | refine below_set ?_ GEc_gb6.out) | exact HB_c.out)) HBc); clear HBc BK_gb1 BK_gb4 BK_gb6 HB0 HB_b HB_a HB_c hczq19_0 hfzq19_0 hczq19_1 hfzq19_1 hczq19_2 hfzq19_2 hczq19_3 hfzq19_3 hczq19_4 hfzq19_4 hczq19_5 hfzq19_5 hczq19_6 hfzq19_6 hczq20_0 hfzq20_0 hczq20_1 hfzq20_1 hczq21_0 hfzq21_0 hczq21_1 hfzq21_1 hnq22 hmq22 hnq23 hmq23 hnq24 hmq24; have BK_gb1 := BKn_gb1; have BK_gb4 := BKn_gb4; have BK_gb6 := BKn_gb6; have HB0 := HB0n; have HB_b := HB_bn; have HB_a := HB_an; have HB_c := HB_cn; clear BKn_gb1 BKn_gb4 BKn_gb6 HB0n HB_bn HB_an HB_cn; have HV_d := Aside0.mk HV0_d; have HC_d := Aside0.mk HC0_d; clear HV0_d HC0_d; have HB_d := Aside0.mk (Below.refl w9.heap.size w9); refine cz7_ BK_gb1.out ?_; intro hczq25_0 hczq25_1 hczq25_2 hczq25_3 hczq25_4 hczq25_5 hczq25_6 hfzq25_0 hfzq25_1 hfzq25_2 hfzq25_3 hfzq25_4 hfzq25_5 hfzq25_6; refine cz2_ BK_gb4.out ?_; intro hczq26_0 hczq26_1 hfzq26_0 hfzq26_1; refine cz2_ BK_gb6.out ?_; intro hczq27_0 hczq27_1 hfzq27_0 hfzq27_1; have hnq28 := NB_gb1_gb4.out; have hmq28 := NB_gb4_gb1.out; have hnq29 := NB_gb1_gb6.out; have hmq29 := NB_gb6_gb1.out; have hnq30 := NB_gb4_gb6.out; have hmq30 := NB_gb6_gb4.out) | ((with_reducible refine gate_dst (N := 8) rfl ?_); refine bx_ (N := 8) (cs := #[.int .i64 0, .int .i64 0, .int .i64 0, .slice none 0 0, .int .i64 0, .int .i64 0, .int .i64 0]) (t := 24) ?_; intro gb8 hg w10 hbox HBc; have GE0_gb8 : Aside0 (w.heap.size ≤ gb8) := Aside0.mk (by rw [hg]; exact (below_size (by repeat (first | (with_reducible first | exact HB0.out | apply below_alloc | apply pw_below_drewN | apply below_drew1 | refine below_set ?_ GE0_gb1.out | refine below_set ?_ GE0_gb4.out | refine below_set ?_ GE0_gb6.out) | exact HB0.out)))); have GEb_gb8 : Aside0 (w2.heap.size ≤ gb8) := Aside0.mk (by rw [hg]; exact (below_size (by repeat (first | (with_reducible first | exact HB_b.out | apply below_alloc | apply pw_below_drewN | apply below_drew1 | refine below_set ?_ GEb_gb4.out | refine below_set ?_ GEb_gb6.out) | exact HB_b.out)))); have GEa_gb8 : Aside0 (w3.heap.size ≤ gb8) := Aside0.mk (by rw [hg]; exact (below_size (by repeat (first | (with_reducible first | exact HB_a.out | apply below_alloc | apply pw_below_drewN | apply below_drew1 | refine below_set ?_ GEa_gb4.out | refine below_set ?_ GEa_gb6.out) | exact HB_a.out)))); have GEc_gb8 : Aside0 (w6.heap.size ≤ gb8) := Aside0.mk (by rw [hg]; exact (below_size (by repeat (first | (with_reducible first | exact HB_c.out | apply below_alloc | apply pw_below_drewN | apply below_drew1 | refine below_set ?_ GEc_gb6.out) | exact HB_c.out)))); have GEd_gb8 : Aside0 (w9.heap.size ≤ gb8) := Aside0.mk (by rw [hg]; exact (below_size (bl0_ HB_d))); have NB_gb1_gb8 : Aside0 (gb1 ≠ gb8) := Aside0.mk (ne_new (bk_ BK_gb1) hg); have NB_gb8_gb1 : Aside0 (gb8 ≠ gb1) := Aside0.mk (fun e => NB_gb1_gb8.out e.symm); have NB_gb4_gb8 : Aside0 (gb4 ≠ gb8) := Aside0.mk (ne_new (bk_ BK_gb4) hg); have NB_gb8_gb4 : Aside0 (gb8 ≠ gb4) := Aside0.mk (fun e => NB_gb4_gb8.out e.symm); have NB_gb6_gb8 : Aside0 (gb6 ≠ gb8) := Aside0.mk (ne_new (bk_ BK_gb6) hg); have NB_gb8_gb6 : Aside0 (gb8 ≠ gb6) := Aside0.mk (fun e => NB_gb6_gb8.out e.symm); clear hg; have BKn_gb1 : Aside0 (w10.heap[gb1]? = some (.cells #[.int .i64 3, .int .i64 16, .int .i64 2, .slice none 0 0, .int .i64 0, .int .i64 0, .int .i64 0] 24 (0, 0))) := Aside0.mk (blk_below (g := gb1) (bk_ BK_gb1) HBc); have BKn_gb4 : Aside0 (w10.heap[gb4]? = some (.cells #[.slice A_a 2 c_a, .int .i64 0] 30 (0, 0))) := Aside0.mk (blk_below (g := gb4) (bk_ BK_gb4) HBc); have BKn_gb6 : Aside0 (w10.heap[gb6]? = some (.cells #[.slice A_c 0 c_c, .int .i64 2] 30 (0, 0))) := Aside0.mk (blk_below (g := gb6) (bk_ BK_gb6) HBc); have HB0n := Aside0.mk (below_step (by repeat (first | (with_reducible first | exact HB0.out | apply below_alloc | apply pw_below_drewN | apply below_drew1 | refine below_set ?_ GE0_gb1.out | refine below_set ?_ GE0_gb4.out | refine below_set ?_ GE0_gb6.out | refine below_set ?_ GE0_gb8.out) | exact HB0.out)) HBc); have HB_bn := Aside0.mk (below_step (by repeat (first | (with_reducible first | exact HB_b.out | apply below_alloc | apply pw_below_drewN | apply below_drew1 | refine below_set ?_ GEb_gb4.out | refine below_set ?_ GEb_gb6.out | refine below_set ?_ GEb_gb8.out) | exact HB_b.out)) HBc); have HB_an := Aside0.mk (below_step (by repeat (first | (with_reducible first | exact HB_a.out | apply below_alloc | apply pw_below_drewN | apply below_drew1 | refine below_set ?_ GEa_gb4.out | refine below_set ?_ GEa_gb6.out | refine below_set ?_ GEa_gb8.out) | exact HB_a.out)) HBc); have HB_cn := Aside0.mk (below_step (by repeat (first | (with_reducible first | exact HB_c.out | apply below_alloc | apply pw_below_drewN | apply below_drew1 | refine below_set ?_ GEc_gb6.out | refine below_set ?_ GEc_gb8.out) | exact HB_c.out)) HBc); have HB_dn := Aside0.mk (below_step (by repeat (first | (with_reducible first | exact HB_d.out | apply below_alloc | apply pw_below_drewN | apply below_drew1 | refine below_set ?_ GEd_gb8.out) | exact HB_d.out)) HBc); clear HBc BK_gb1 BK_gb4 BK_gb6 HB0 HB_b HB_a HB_c HB_d hczq25_0 hfzq25_0 hczq25_1 hfzq25_1 hczq25_2 hfzq25_2 hczq25_3 hfzq25_3 hczq25_4 hfzq25_4 hczq25_5 hfzq25_5 hczq25_6 hfzq25_6 hczq26_0 hfzq26_0 hczq26_1 hfzq26_1 hczq27_0 hfzq27_0 hczq27_1 hfzq27_1 hnq28 hmq28 hnq29 hmq29 hnq30 hmq30; have BK_gb1 := BKn_gb1; have BK_gb4 := BKn_gb4; have BK_gb6 := BKn_gb6; have HB0 := HB0n; have HB_b := HB_bn; have HB_a := HB_an; have HB_c := HB_cn; have HB_d := HB_dn; clear BKn_gb1 BKn_gb4 BKn_gb6 HB0n HB_bn HB_an HB_cn HB_dn; have BK_gb8 := Aside0.mk hbox; clear hbox; refine cz7_ BK_gb1.out ?_; intro hczq31_0 hczq31_1 hczq31_2 hczq31_3 hczq31_4 hczq31_5 hczq31_6 hfzq31_0 hfzq31_1 hfzq31_2 hfzq31_3 hfzq31_4 hfzq31_5 hfzq31_6; refine cz2_ BK_gb4.out ?_; intro hczq32_0 hczq32_1 hfzq32_0 hfzq32_1; refine cz2_ BK_gb6.out ?_; intro hczq33_0 hczq33_1 hfzq33_0 hfzq33_1; refine cz7_ BK_gb8.out ?_; intro hczq34_0 hczq34_1 hczq34_2 hczq34_3 hczq34_4 hczq34_5 hczq34_6 hfzq34_0 hfzq34_1 hfzq34_2 hfzq34_3 hfzq34_4 hfzq34_5 hfzq34_6; have hnq35 := NB_gb1_gb4.out; have hmq35 := NB_gb4_gb1.out; have hnq36 := NB_gb1_gb6.out; have hmq36 := NB_gb6_gb1.out; have hnq37 := NB_gb1_gb8.out; have hmq37 := NB_gb8_gb1.out; have hnq38 := NB_gb4_gb6.out; have hmq38 := NB_gb6_gb4.out; have hnq39 := NB_gb4_gb8.out; have hmq39 := NB_gb8_gb4.out; have hnq40 := NB_gb6_gb8.out; have hmq40 := NB_gb8_gb6.out))
 have BKn_gb1 : Aside0 ((((((((w10.setCell ⟨gb8, 0, none⟩ (.int .i64 0)).setCell ⟨gb8, 1, none⟩ (.int .i64 0)).setCell ⟨gb8, 2, none⟩ (.int .i64 0)).setCell ⟨gb8, 3, none⟩ (.slice A_d 0 c_d)).setCell ⟨gb8, 4, none⟩ (.int .i64 0)).setCell ⟨gb8, 5, none⟩ (.int .i64 0)).setCell ⟨gb8, 6, none⟩ (.int .i64 0)).heap[gb1]? = some (.cells #[.int .i64 3, .int .i64 16, .int .i64 2, .slice none 0 0, .int .i64 0, .int .i64 0, .int .i64 0] 24 (0, 0))) := Aside0.mk (by (with_reducible repeat (first | refine blk_drewN ?_ _ | refine blk_drew ?_ | refine blk_alloc ?_ _)); refine blk_far ?_ NB_gb1_gb8.out _; (with_reducible repeat (first | refine blk_drewN ?_ _ | refine blk_drew ?_ | refine blk_alloc ?_ _)); refine blk_far ?_ NB_gb1_gb8.out _; (with_reducible repeat (first | refine blk_drewN ?_ _ | refine blk_drew ?_ | refine blk_alloc ?_ _)); refine blk_far ?_ NB_gb1_gb8.out _; (with_reducible repeat (first | refine blk_drewN ?_ _ | refine blk_drew ?_ | refine blk_alloc ?_ _)); refine blk_far ?_ NB_gb1_gb8.out _; (with_reducible repeat (first | refine blk_drewN ?_ _ | refine blk_drew ?_ | refine blk_alloc ?_ _)); refine blk_far ?_ NB_gb1_gb8.out _; (with_reducible repeat (first | refine blk_drewN ?_ _ | refine blk_drew ?_ | refine blk_alloc ?_ _)); refine blk_far ?_ NB_gb1_gb8.out _; (with_reducible repeat (first | refine blk_drewN ?_ _ | refine blk_drew ?_ | refine blk_alloc ?_ _)); refine blk_far ?_ NB_gb1_gb8.out _; (with_reducible repeat (first | refine blk_drewN ?_ _ | refine blk_drew ?_ | refine blk_alloc ?_ _)); exact BK_gb1.out)
 have BKn_gb4 : Aside0 ((((((((w10.setCell ⟨gb8, 0, none⟩ (.int .i64 0)).setCell ⟨gb8, 1, none⟩ (.int .i64 0)).setCell ⟨gb8, 2, none⟩ (.int .i64 0)).setCell ⟨gb8, 3, none⟩ (.slice A_d 0 c_d)).setCell ⟨gb8, 4, none⟩ (.int .i64 0)).setCell ⟨gb8, 5, none⟩ (.int .i64 0)).setCell ⟨gb8, 6, none⟩ (.int .i64 0)).heap[gb4]? = some (.cells #[.slice A_a 2 c_a, .int .i64 0] 30 (0, 0))) := Aside0.mk (by (with_reducible repeat (first | refine blk_drewN ?_ _ | refine blk_drew ?_ | refine blk_alloc ?_ _)); refine blk_far ?_ NB_gb4_gb8.out _; (with_reducible repeat (first | refine blk_drewN ?_ _ | refine blk_drew ?_ | refine blk_alloc ?_ _)); refine blk_far ?_ NB_gb4_gb8.out _; (with_reducible repeat (first | refine blk_drewN ?_ _ | refine blk_drew ?_ | refine blk_alloc ?_ _)); refine blk_far ?_ NB_gb4_gb8.out _; (with_reducible repeat (first | refine blk_drewN ?_ _ | refine blk_drew ?_ | refine blk_alloc ?_ _)); refine blk_far ?_ NB_gb4_gb8.out _; (with_reducible repeat (first | refine blk_drewN ?_ _ | refine blk_drew ?_ | refine blk_alloc ?_ _)); refine blk_far ?_ NB_gb4_gb8.out _; (with_reducible repeat (first | refine blk_drewN ?_ _ | refine blk_drew ?_ | refine blk_alloc ?_ _)); refine blk_far ?_ NB_gb4_gb8.out _; (with_reducible repeat (first | refine blk_drewN ?_ _ | refine blk_drew ?_ | refine blk_alloc ?_ _)); refine blk_far ?_ NB_gb4_gb8.out _; (with_reducible repeat (first | refine blk_drewN ?_ _ | refine blk_drew ?_ | refine blk_alloc ?_ _)); exact BK_gb4.out)
 have BKn_gb6 : Aside0 ((((((((w10.setCell ⟨gb8, 0, none⟩ (.int .i64 0)).setCell ⟨gb8, 1, none⟩ (.int .i64 0)).setCell ⟨gb8, 2, none⟩ (.int .i64 0)).setCell ⟨gb8, 3, none⟩ (.slice A_d 0 c_d)).setCell ⟨gb8, 4, none⟩ (.int .i64 0)).setCell ⟨gb8, 5, none⟩ (.int .i64 0)).setCell ⟨gb8, 6, none⟩ (.int .i64 0)).heap[gb6]? = some (.cells #[.slice A_c 0 c_c, .int .i64 2] 30 (0, 0))) := Aside0.mk (by (with_reducible repeat (first | refine blk_drewN ?_ _ | refine blk_drew ?_ | refine blk_alloc ?_ _)); refine blk_far ?_ NB_gb6_gb8.out _; (with_reducible repeat (first | refine blk_drewN ?_ _ | refine blk_drew ?_ | refine blk_alloc ?_ _)); refine blk_far ?_ NB_gb6_gb8.out _; (with_reducible repeat (first | refine blk_drewN ?_ _ | refine blk_drew ?_ | refine blk_alloc ?_ _)); refine blk_far ?_ NB_gb6_gb8.out _; (with_reducible repeat (first | refine blk_drewN ?_ _ | refine blk_drew ?_ | refine blk_alloc ?_ _)); refine blk_far ?_ NB_gb6_gb8.out _; (with_reducible repeat (first | refine blk_drewN ?_ _ | refine blk_drew ?_ | refine blk_alloc ?_ _)); refine blk_far ?_ NB_gb6_gb8.out _; (with_reducible repeat (first | refine blk_drewN ?_ _ | refine blk_drew ?_ | refine blk_alloc ?_ _)); refine blk_far ?_ NB_gb6_gb8.out _; (with_reducible repeat (first | refine blk_drewN ?_ _ | refine blk_drew ?_ | refine blk_alloc ?_ _)); refine blk_far ?_ NB_gb6_gb8.out _; (with_reducible repeat (first | refine blk_drewN ?_ _ | refine blk_drew ?_ | refine blk_alloc ?_ _)); exact BK_gb6.out)
 have BKn_gb8 : Aside0 ((((((((w10.setCell ⟨gb8, 0, none⟩ (.int .i64 0)).setCell ⟨gb8, 1, none⟩ (.int .i64 0)).setCell ⟨gb8, 2, none⟩ (.int .i64 0)).setCell ⟨gb8, 3, none⟩ (.slice A_d 0 c_d)).setCell ⟨gb8, 4, none⟩ (.int .i64 0)).setCell ⟨gb8, 5, none⟩ (.int .i64 0)).setCell ⟨gb8, 6, none⟩ (.int .i64 0)).heap[gb8]? = some (.cells #[.int .i64 0, .int .i64 0, .int .i64 0, .slice A_d 0 c_d, .int .i64 0, .int .i64 0, .int .i64 0] 24 (0, 0))) := Aside0.mk (by (with_reducible repeat (first | refine blk_drewN ?_ _ | refine blk_drew ?_ | refine blk_alloc ?_ _)); refine blk_put (cs := #[.int .i64 0, .int .i64 0, .int .i64 0, .slice A_d 0 c_d, .int .i64 0, .int .i64 0, .int .i64 0]) ?_ 6 _ rfl; (with_reducible repeat (first | refine blk_drewN ?_ _ | refine blk_drew ?_ | refine blk_alloc ?_ _)); refine blk_put (cs := #[.int .i64 0, .int .i64 0, .int .i64 0, .slice A_d 0 c_d, .int .i64 0, .int .i64 0, .int .i64 0]) ?_ 5 _ rfl; (with_reducible repeat (first | refine blk_drewN ?_ _ | refine blk_drew ?_ | refine blk_alloc ?_ _)); refine blk_put (cs := #[.int .i64 0, .int .i64 0, .int .i64 0, .slice A_d 0 c_d, .int .i64 0, .int .i64 0, .int .i64 0]) ?_ 4 _ rfl; (with_reducible repeat (first | refine blk_drewN ?_ _ | refine blk_drew ?_ | refine blk_alloc ?_ _)); refine blk_put (cs := #[.int .i64 0, .int .i64 0, .int .i64 0, .slice none 0 0, .int .i64 0, .int .i64 0, .int .i64 0]) ?_ 3 _ rfl; (with_reducible repeat (first | refine blk_drewN ?_ _ | refine blk_drew ?_ | refine blk_alloc ?_ _)); refine blk_put (cs := #[.int .i64 0, .int .i64 0, .int .i64 0, .slice none 0 0, .int .i64 0, .int .i64 0, .int .i64 0]) ?_ 2 _ rfl; (with_reducible repeat (first | refine blk_drewN ?_ _ | refine blk_drew ?_ | refine blk_alloc ?_ _)); refine blk_put (cs := #[.int .i64 0, .int .i64 0, .int .i64 0, .slice none 0 0, .int .i64 0, .int .i64 0, .int .i64 0]) ?_ 1 _ rfl; (with_reducible repeat (first | refine blk_drewN ?_ _ | refine blk_drew ?_ | refine blk_alloc ?_ _)); refine blk_put (cs := #[.int .i64 0, .int .i64 0, .int .i64 0, .slice none 0 0, .int .i64 0, .int .i64 0, .int .i64 0]) ?_ 0 _ rfl; (with_reducible repeat (first | refine blk_drewN ?_ _ | refine blk_drew ?_ | refine blk_alloc ?_ _)); exact BK_gb8.out)
 have HB0n : Aside0 (Below w.heap.size w (((((((w10.setCell ⟨gb8, 0, none⟩ (.int .i64 0)).setCell ⟨gb8, 1, none⟩ (.int .i64 0)).setCell ⟨gb8, 2, none⟩ (.int .i64 0)).setCell ⟨gb8, 3, none⟩ (.slice A_d 0 c_d)).setCell ⟨gb8, 4, none⟩ (.int .i64 0)).setCell ⟨gb8, 5, none⟩ (.int .i64 0)).setCell ⟨gb8, 6, none⟩ (.int .i64 0))) := Aside0.mk (by repeat (first | (with_reducible first | exact HB0.out | apply below_alloc | apply pw_below_drewN | apply below_drew1 | refine below_set ?_ GE0_gb1.out | refine below_set ?_ GE0_gb4.out | refine below_set ?_ GE0_gb6.out | refine below_set ?_ GE0_gb8.out) | exact HB0.out))
 have HB_bn : Aside0 (Below w2.heap.size w2 (((((((w10.setCell ⟨gb8, 0, none⟩ (.int .i64 0)).setCell ⟨gb8, 1, none⟩ (.int .i64 0)).setCell ⟨gb8, 2, none⟩ (.int .i64 0)).setCell ⟨gb8, 3, none⟩ (.slice A_d 0 c_d)).setCell ⟨gb8, 4, none⟩ (.int .i64 0)).setCell ⟨gb8, 5, none⟩ (.int .i64 0)).setCell ⟨gb8, 6, none⟩ (.int .i64 0))) := Aside0.mk (by repeat (first | (with_reducible first | exact HB_b.out | apply below_alloc | apply pw_below_drewN | apply below_drew1 | refine below_set ?_ GEb_gb4.out | refine below_set ?_ GEb_gb6.out | refine below_set ?_ GEb_gb8.out) | exact HB_b.out))
 have HB_an : Aside0 (Below w3.heap.size w3 (((((((w10.setCell ⟨gb8, 0, none⟩ (.int .i64 0)).setCell ⟨gb8, 1, none⟩ (.int .i64 0)).setCell ⟨gb8, 2, none⟩ (.int .i64 0)).setCell ⟨gb8, 3, none⟩ (.slice A_d 0 c_d)).setCell ⟨gb8, 4, none⟩ (.int .i64 0)).setCell ⟨gb8, 5, none⟩ (.int .i64 0)).setCell ⟨gb8, 6, none⟩ (.int .i64 0))) := Aside0.mk (by repeat (first | (with_reducible first | exact HB_a.out | apply below_alloc | apply pw_below_drewN | apply below_drew1 | refine below_set ?_ GEa_gb4.out | refine below_set ?_ GEa_gb6.out | refine below_set ?_ GEa_gb8.out) | exact HB_a.out))
 have HB_cn : Aside0 (Below w6.heap.size w6 (((((((w10.setCell ⟨gb8, 0, none⟩ (.int .i64 0)).setCell ⟨gb8, 1, none⟩ (.int .i64 0)).setCell ⟨gb8, 2, none⟩ (.int .i64 0)).setCell ⟨gb8, 3, none⟩ (.slice A_d 0 c_d)).setCell ⟨gb8, 4, none⟩ (.int .i64 0)).setCell ⟨gb8, 5, none⟩ (.int .i64 0)).setCell ⟨gb8, 6, none⟩ (.int .i64 0))) := Aside0.mk (by repeat (first | (with_reducible first | exact HB_c.out | apply below_alloc | apply pw_below_drewN | apply below_drew1 | refine below_set ?_ GEc_gb6.out | refine below_set ?_ GEc_gb8.out) | exact HB_c.out))
 have HB_dn : Aside0 (Below w9.heap.size w9 (((((((w10.setCell ⟨gb8, 0, none⟩ (.int .i64 0)).setCell ⟨gb8, 1, none⟩ (.int .i64 0)).setCell ⟨gb8, 2, none⟩ (.int .i64 0)).setCell ⟨gb8, 3, none⟩ (.slice A_d 0 c_d)).setCell ⟨gb8, 4, none⟩ (.int .i64 0)).setCell ⟨gb8, 5, none⟩ (.int .i64 0)).setCell ⟨gb8, 6, none⟩ (.int .i64 0))) := Aside0.mk (by repeat (first | (with_reducible first | exact HB_d.out | apply below_alloc | apply pw_below_drewN | apply below_drew1 | refine below_set ?_ GEd_gb8.out) | exact HB_d.out))
 clear BK_gb1 BK_gb4 BK_gb6 BK_gb8 HB0 HB_b HB_a HB_c HB_d hczq31_0 hfzq31_0 hczq31_1 hfzq31_1 hczq31_2 hfzq31_2 hczq31_3 hfzq31_3 hczq31_4 hfzq31_4 hczq31_5 hfzq31_5 hczq31_6 hfzq31_6 hczq32_0 hfzq32_0 hczq32_1 hfzq32_1 hczq33_0 hfzq33_0 hczq33_1 hfzq33_1 hczq34_0 hfzq34_0 hczq34_1 hfzq34_1 hczq34_2 hfzq34_2 hczq34_3 hfzq34_3 hczq34_4 hfzq34_4 hczq34_5 hfzq34_5 hczq34_6 hfzq34_6 hnq35 hmq35 hnq36 hmq36 hnq37 hmq37 hnq38 hmq38 hnq39 hmq39 hnq40 hmq40
 have BK_gb1 := BKn_gb1
 have BK_gb4 := BKn_gb4
 have BK_gb6 := BKn_gb6
 have BK_gb8 := BKn_gb8
 have HB0 := HB0n
 have HB_b := HB_bn
 have HB_a := HB_an
 have HB_c := HB_cn
 have HB_d := HB_dn
 clear BKn_gb1 BKn_gb4 BKn_gb6 BKn_gb8 HB0n HB_bn HB_an HB_cn HB_dn
 generalize (((((((w10.setCell ⟨gb8, 0, none⟩ (.int .i64 0)).setCell ⟨gb8, 1, none⟩ (.int .i64 0)).setCell ⟨gb8, 2, none⟩ (.int .i64 0)).setCell ⟨gb8, 3, none⟩ (.slice A_d 0 c_d)).setCell ⟨gb8, 4, none⟩ (.int .i64 0)).setCell ⟨gb8, 5, none⟩ (.int .i64 0)).setCell ⟨gb8, 6, none⟩ (.int .i64 0)) = w11 at BK_gb1 BK_gb4 BK_gb6 BK_gb8 HB0 HB_b HB_a HB_c HB_d ⊢
 refine cz7_ BK_gb1.out ?_; intro hczq41_0 hczq41_1 hczq41_2 hczq41_3 hczq41_4 hczq41_5 hczq41_6 hfzq41_0 hfzq41_1 hfzq41_2 hfzq41_3 hfzq41_4 hfzq41_5 hfzq41_6
 refine cz2_ BK_gb4.out ?_; intro hczq42_0 hczq42_1 hfzq42_0 hfzq42_1
 refine cz2_ BK_gb6.out ?_; intro hczq43_0 hczq43_1 hfzq43_0 hfzq43_1
 refine cz7_ BK_gb8.out ?_; intro hczq44_0 hczq44_1 hczq44_2 hczq44_3 hczq44_4 hczq44_5 hczq44_6 hfzq44_0 hfzq44_1 hfzq44_2 hfzq44_3 hfzq44_4 hfzq44_5 hfzq44_6
 have hnq45 := NB_gb1_gb4.out; have hmq45 := NB_gb4_gb1.out
 have hnq46 := NB_gb1_gb6.out; have hmq46 := NB_gb6_gb1.out
 have hnq47 := NB_gb1_gb8.out; have hmq47 := NB_gb8_gb1.out
 have hnq48 := NB_gb4_gb6.out; have hmq48 := NB_gb6_gb4.out
 have hnq49 := NB_gb4_gb8.out; have hmq49 := NB_gb8_gb4.out
 have hnq50 := NB_gb6_gb8.out; have hmq50 := NB_gb8_gb6.out
 have hcv : Sem.run Try.prog (convert 58 9 (.slice A_b 5 c_b)) w11 = .ok (.string ⟨#[3, 0, 16, 0, 2]⟩) w11 := Kd.C_string (P := Try.prog) (A := A_b) (c := c_b) Try.underlying58 Try.underlying5 Try.underlying9 (Kd.C_below HV_b.out (by repeat (first | (with_reducible first | exact HB_b.out | apply below_alloc | apply pw_below_drewN | apply below_drew1 | refine below_set ?_ GEb_gb4.out | refine below_set ?_ GEb_gb6.out | refine below_set ?_ GEb_gb8.out) | exact HB_b.out)))
 have hca : ∀ o, (w11.alloc o).cell? ⟨gb6, 1, none⟩ = some (.int .i64 2) := fun o => (blk_cell (blk_alloc BK_gb6.out o) 1).trans rfl
 go_wp2_with (go_at_call 42; refine (PR.basculeref01_Ints.calls 60 A_a c_a [1, 2] (some _) 2 [1, 2] true _ (Kd.C_below HV_a.out (by repeat (first | (with_reducible first | exact HB_a.out | apply below_alloc | apply pw_below_drewN | apply below_drew1 | refine below_set ?_ GEa_gb4.out | refine below_set ?_ GEa_gb6.out | refine below_set ?_ GEa_gb8.out) | exact HB_a.out))) HC_a.out (litI_C _ [1, 2] (by decide)) (Nat.le_refl _) aw5.out).mono ?_; rintro e w' ⟨rfl, ⟨nd, rfl⟩⟩)
 go_ret
 exact ⟨rfl, (by repeat (first | (with_reducible first | exact HB0.out | apply below_alloc | apply pw_below_drewN | apply below_drew1 | refine below_set ?_ GE0_gb1.out | refine below_set ?_ GE0_gb4.out | refine below_set ?_ GE0_gb6.out | refine below_set ?_ GE0_gb8.out) | exact HB0.out))⟩
end Go.Proofs.Ytocicifgglkaeaa.ExtQ
end

section
namespace Go.Proofs.Ytocicifgglkaeaa.Core
open Go.RowKit Go.Proofs.YtocicifgglkaeaaW.PrintWords Go.Proofs.YtocicifgglkaeaaW.PrintLast Go.Proofs.YtocicifgglkaeaaW.PrintMore
set_option linter.unusedVariables false
set_option linter.unusedSimpArgs false
structure Ext (M : Nat → Prop) (w w' : World) : Prop where
 os : w'.os = w.os
 tape : w'.tape = w.tape
 output : w'.output = w.output
 size : w.heap.size ≤ w'.heap.size
 block : ∀ k, k < w.heap.size → ¬ M k → w'.heap[k]? = w.heap[k]?
structure Ever (M : Nat → Prop) (w : World) (P : World → Prop) : Prop where
 at_ : ∀ w', Ext M w w' → P w'
section
variable {M M' : Nat → Prop} {w w1 w2 W : World} {P Q : World → Prop}
theorem Ext.refl (M : Nat → Prop) (w : World) : Ext M w w := ⟨rfl, rfl, rfl, Nat.le_refl _, fun _ _ _ => rfl⟩
theorem Ext.trans (h : Ext M w w1) (k : Ext M w1 w2) : Ext M w w2 :=
 ⟨k.os.trans h.os, k.tape.trans h.tape, k.output.trans h.output, Nat.le_trans h.size k.size, fun i hi hm => (k.block i (Nat.lt_of_lt_of_le hi h.size) hm).trans (h.block i hi hm)⟩
theorem Ext.mono (h : Ext M w w1) (hm : ∀ k, k < w.heap.size → M k → M' k) : Ext M' w w1 := ⟨h.os, h.tape, h.output, h.size, fun i hi hn => h.block i hi (fun a => hn (hm i hi a))⟩
theorem Ext.of_below (h : Below w.heap.size w w1) : Ext M w w1 := ⟨h.os, h.tape, h.output, h.size, fun i hi _ => h.block i hi⟩
theorem Ext.then_below (h : Ext M w w1) (k : Below w1.heap.size w1 w2) : Ext M w w2 := h.trans (.of_below k)
theorem Ext.alloc (h : Ext M w W) (o : Obj) : Ext M w (W.alloc o) := h.then_below (below_alloc (Below.refl _ _) o)
theorem Ext.below (h : Ext M w W) (hM : ∀ k, M k → w.heap.size ≤ k) : Below w.heap.size w W := ⟨h.os, h.tape, h.output, h.size, fun k hk => h.block k hk (fun a => by have := hM k a; omega)⟩
theorem Ever.imp (h : Ever M w P) (k : ∀ w, P w → Q w) : Ever M w Q := ⟨fun w1 h1 => k _ (h.at_ w1 h1)⟩
theorem Ever.old (h : P w) (hb : ∀ w1, Below w.heap.size w w1 → P w1) (hM : ∀ k, M k → w.heap.size ≤ k) : Ever M w P := ⟨fun w1 h1 => hb w1 (h1.below hM)⟩
theorem Ever.C {α : Type} {d : Kd α} {A : Option Addr} {n : Nat} {xs : List α} (h : d.C w A n xs) (hM : ∀ k, M k → w.heap.size ≤ k) : Ever M w (fun W => d.C W A n xs) := .old h (fun _ hb => Kd.C_below h hb) hM
end
section
variable {α : Type} {enc : α → Value} {h1 : ∀ x, (enc x).oneCell' = true} {M : Nat → Prop} {w : World} {A : Option Addr}
theorem Ever.take {d : Kd α} {xs : List α} (h : Ever M w (fun W => d.C W A xs.length xs)) {m : Nat} (hm : m ≤ xs.length) : Ever M w (fun W => d.C W A (xs.take m).length (xs.take m)) := h.imp (fun _ k => Kd.C_take k hm)
end
def Mv (M : Nat → Prop) (v : Value) (k : Nat) : Prop := M k ∨ some k = v.ownBlock
def OwnE {α : Type} (d : Kd α) (M : Nat → Prop) (e : TypeId) (base : Nat) (W : World) (v : Value) (xs : List α) : Prop :=
 ∃ inner, W.ownsRow base e d.sz v xs.length inner ∧ Reps (fun x cs => Ever (Mv M v) W (fun W => d.K W x cs)) d.sz xs inner
section
variable {α : Type} {d : Kd α} {M M' : Nat → Prop} {e : TypeId} {base : Nat} {W w1 : World} {v v1 : Value} {xs : List α} {P : World → Prop}
theorem OwnE.slice (h : OwnE d M e base W v xs) : ∃ A c, v = .slice A xs.length c := by obtain ⟨i, h, _⟩ := h; exact own_slice h
end
section
variable {P : Program} {ops : Array Oper} {rest : List Oper} {o : Oper} {a : Act} {Q : Exit → Act → World → Prop} {α : Type}
end
def RowE {α : Type} (d : Kd α) (M : Nat → Prop) (W : World) (A : Option Addr) (n : Nat) (xs : List α) : Prop :=
 xs.length = n ∧ n ≤ 9223372036854775807 ∧ (0 < n → ∃ ad inner, A = some ad ∧ Reps (fun x cs => (cs.length = d.sz ∧ ∀ u ∈ cs, u.oneCell' = true) ∧ Ever M W (fun W => d.K W x cs)) d.sz xs inner ∧ Ever M W (fun W => ∀ i u, inner[i]? = some u → W.cell? (ad.add i) = some u))
section
variable {α : Type} {d : Kd α} {M M' : Nat → Prop} {W w1 : World} {A : Option Addr} {n : Nat} {xs : List α}
end
def IsRow {α : Type} (d : Kd α) (M : Nat → Prop) (W : World) (v : Value) (xs : List α) : Prop := ∃ A c, v = .slice A xs.length c ∧ xs.length ≤ c ∧ RowE d M W A xs.length xs
end Go.Proofs.Ytocicifgglkaeaa.Core
end

section
set_option linter.unusedVariables false
set_option linter.unusedSimpArgs false
namespace Go.Proofs.Ytocicifgglkaeaa.Wk
open Go.RowKit Go.Proofs.YtocicifgglkaeaaW.PrintWords Go.Proofs.YtocicifgglkaeaaW.PrintLast Go.Proofs.YtocicifgglkaeaaW.PrintMore Go.Proofs.Ytocicifgglkaeaa.Core
end Go.Proofs.Ytocicifgglkaeaa.Wk
namespace Go.Proofs.Ytocicifgglkaeaa.Core
open Go.RowKit Go.Proofs.YtocicifgglkaeaaW.PrintWords Go.Proofs.YtocicifgglkaeaaW.PrintLast Go.Proofs.YtocicifgglkaeaaW.PrintMore
section
variable {M M' F : Nat → Prop} {w w1 w2 W W' : World} {P Q : World → Prop} {g : Nat}
theorem C_cell {xs : List Int} {k : IntKind} {A : Option Addr} (h : Kd.C (Kd.int k) W A xs.length xs) (hn : 0 < xs.length) : ∃ ad, A = some ad ∧ ∀ j, j < xs.length → W.cell? (ad.add j) = some (.int k (xs.getD j 0)) := (Kd.reads_of_C h).2.2 hn
end
end Go.Proofs.Ytocicifgglkaeaa.Core
namespace Go.Proofs.Ytocicifgglkaeaa.Wk
open Go.RowKit Go.Proofs.YtocicifgglkaeaaW.PrintWords Go.Proofs.YtocicifgglkaeaaW.PrintLast Go.Proofs.YtocicifgglkaeaaW.PrintMore Go.Proofs.Ytocicifgglkaeaa.Core
section
variable {P : Program} {ops : Array Oper} {rest : List Oper} {o : Oper} {a : Act} {Q : Exit → Act → World → Prop} {W : World} {Kc : Act → World → Prop}
end
def keyIs (k : Int) (e : MapEntry) : Bool := match e.key with | .int .i64 a => a == k | _ => false
def mget (es : List MapEntry) (k : Int) : Option Value := (es.find? (keyIs k)).map (·.val)
def IntKeys (es : List MapEntry) : Prop := ∀ e ∈ es, ∃ a, e.key = .int .i64 a
structure IsMap (W : World) (m : Nat) (f : Int → Option Value) (n : Nat) : Prop where
 out : ∃ (es : Array MapEntry) (clock : Nat), W.heap[m]? = some (.map es clock) ∧ IntKeys es.toList ∧ es.size ≤ n ∧ ∀ k, mget es.toList k = f k
section
variable {P : Program} {W W' : World} {m n : Nat} {f : Int → Option Value}
end
section
variable {P : Program} {ops : Array Oper} {rest : List Oper} {o : Oper} {a : Act} {Q : Exit → Act → World → Prop} {W : World}
end
end Go.Proofs.Ytocicifgglkaeaa.Wk
end

section
namespace Go.Proofs.Ytocicifgglkaeaa.Chk
open Go.RowKit Go.Proofs.YtocicifgglkaeaaW.PrintWords Go.Proofs.YtocicifgglkaeaaW.PrintLast Go.Proofs.YtocicifgglkaeaaW.PrintMore Go.Proofs.Ytocicifgglkaeaa.Core Go.Proofs.Ytocicifgglkaeaa.Wk
set_option linter.unusedVariables false
set_option linter.unusedSimpArgs false
def wB (lo hi n : Int) : Bool := decide (lo ≤ n ∧ n ≤ hi)
def spB (a n : Int) : Bool := decide (0 ≤ a ∧ a ≤ 65535 ∧ a + n ≤ 65536)
def lowB (m : Int) (l : List Int) : Bool := decide (∀ x ∈ l, 0 ≤ x ∧ x ≤ m)
def smB (lo hi m : Int) (l : List Int) : Bool := wB lo hi l.length && lowB m l
theorem wB_yes {lo hi n : Int} (h0 : lo ≤ n) (h1 : n ≤ hi) : wB lo hi n = true := decide_eq_true ⟨h0, h1⟩
theorem wB_no {lo hi n : Int} (h : ¬ (lo ≤ n ∧ n ≤ hi)) : wB lo hi n = false := decide_eq_false h
theorem wB_iff {lo hi n : Int} : wB lo hi n = true ↔ lo ≤ n ∧ n ≤ hi := decide_eq_true_iff
theorem smB_len {lo hi m : Int} {l : List Int} (h : smB lo hi m l = true) : (l.length : Int) ≤ hi := by
 unfold smB at h
 rw [Bool.and_eq_true] at h
 exact (wB_iff.1 h.1).2
theorem low_nil (m : Int) : lowB m [] = true := decide_eq_true (fun x hx => by cases hx)
theorem low_take {m : Int} {l : List Int} {k : Nat} (hk : k < l.length) (h : lowB m (l.take k) = true) (hx : wB 0 m (l.getD k 0) = true) : lowB m (l.take (k + 1)) = true := by
 unfold lowB at h ⊢
 rw [decide_eq_true_eq] at h ⊢
 intro x hx'
 rw [List.take_succ_eq_append_getElem hk, List.mem_append] at hx'
 rcases hx' with hx' | hx'
 ·exact h x hx'
 ·have e : x = l[k] := by simpa using hx'
  rw [e]
  rw [List.getD_eq_getElem?_getD, List.getElem?_eq_getElem hk] at hx
  exact wB_iff.1 hx
theorem low_bad {m : Int} {l : List Int} {k : Nat} (hk : k < l.length) (hx : wB 0 m (l.getD k 0) = false) : lowB m l = false := by
 unfold lowB
 rw [decide_eq_false_iff_not]
 intro h
 have h1 := h l[k] (List.getElem_mem hk)
 rw [List.getD_eq_getElem?_getD, List.getElem?_eq_getElem hk] at hx
 have := wB_yes (lo := 0) (hi := m) h1.1 h1.2
 rw [Option.getD_some, this] at hx
 cases hx
set_option maxHeartbeats 4000000 in
set_option maxRecDepth 100000 in
theorem is_c (n : Int) (w : World) : Calls Try.prog 45 #[.int .i64 n] w fun e w' => e = .returned (.bool (wB 0 65535 n)) ∧ w = w' := by
 by_cases h0 : 0 ≤ n
 ·have t0 : decide (0 ≤ n) = true := decide_eq_true h0
  by_cases h1 : n ≤ 65535
  ·have t1 : decide (n ≤ 65535) = true := decide_eq_true h1
   rw [wB_yes h0 h1]; clear h0 h1
   go_enter Try.func45, Try.ntmps45
   go_wp2
   go_ret
   exact ⟨rfl, rfl⟩
  ·have t1 : decide (n ≤ 65535) = false := decide_eq_false h1
   rw [wB_no (fun a => h1 a.2)]; clear h0 h1
   go_enter Try.func45, Try.ntmps45
   go_wp2
   go_ret
   exact ⟨rfl, rfl⟩
 ·have t0 : decide (0 ≤ n) = false := decide_eq_false h0
  rw [wB_no (fun a => h0 a.1)]; clear h0
  go_enter Try.func45, Try.ntmps45
  go_wp2
  go_ret
  exact ⟨rfl, rfl⟩
set_option maxHeartbeats 4000000 in
set_option maxRecDepth 100000 in
theorem words_c (A : Option Addr) (c : Nat) (l : List Int) (w : World) (hV : Kd.C (Kd.int .i64) w A l.length l) : Calls Try.prog 68 #[.slice A l.length c] w fun e w' => e = .returned (.bool (lowB 65535 l)) ∧ w = w' := by
 have hmx := hV.2.1
 have HV := Aside0.mk hV
 clear hV
 go_enter Try.func68, Try.ntmps68
 go_wp2_with fail
 go_loop [3] (fun i => ∃ k : Nat, k ≤ l.length ∧ i = .int .i64 k ∧ Aside0 (lowB 65535 (l.take k) = true)) (fun i => l.length - (intOf i).toNat)
 case atStart => exact ⟨0, by omega, rfl, ⟨by rw [List.take_zero]; exact low_nil _⟩⟩
 case round =>
  obtain ⟨k, hk, rfl, HL⟩ := hrel
  by_cases hlt : k < l.length
  ·have t1 : decide (k < l.length) = true := decide_eq_true hlt
   have t2 : decide ((k : Int) < (l.length : Int)) = true := decide_eq_true (by omega)
   obtain ⟨ad, rfl, hc0⟩ := C_cell HV.out (by omega)
   have hc := hc0 k hlt
   clear hc0
   obtain ⟨x, hx⟩ : ∃ x, l.getD k 0 = x := ⟨_, rfl⟩
   rw [hx] at hc
   have HX := Aside0.mk hx
   clear hx
   have hkl := hlt
   clear hlt
   by_cases hb : wB 0 65535 x = true
   ·have HB := Aside0.mk hb
    skip
    go_wp2_with (go_at_call 45; refine (is_c _ _).mono ?_; rintro e w' ⟨rfl, rfl⟩)
    go_round
    case rel => exact ⟨k + 1, by omega, by go_num, ⟨low_take hkl HL.out (by rw [HX.out]; exact HB.out)⟩⟩
    case measure => simp [intOf]; omega
   ·have hb' : wB 0 65535 x = false := by simpa using hb
    have HN : Aside0 (lowB 65535 l = false) := ⟨low_bad hkl (by rw [HX.out]; exact hb')⟩
    clear hb
    go_wp2_with (go_at_call 45; refine (is_c _ _).mono ?_; rintro e w' ⟨rfl, rfl⟩)
    go_ret
    exact ⟨by rw [HN.out]; rfl, rfl⟩
  ·obtain rfl : k = l.length := by omega
   have t1 : decide (l.length < l.length) = false := decide_eq_false (by omega)
   have t2 : decide ((l.length : Int) < (l.length : Int)) = false := decide_eq_false (by omega)
   have hl := HL.out
   rw [List.take_of_length_le (Nat.le_refl _)] at hl
   have HL2 := Aside0.mk hl
   clear hl hlt
   go_wp2_with fail
   go_ret
   exact ⟨by rw [HL2.out]; rfl, rfl⟩
set_option maxHeartbeats 4000000 in
set_option maxRecDepth 100000 in
theorem bits_c (A : Option Addr) (c : Nat) (l : List Int) (w : World) (hV : Kd.C (Kd.int .i64) w A l.length l) : Calls Try.prog 67 #[.slice A l.length c] w fun e w' => e = .returned (.bool (lowB 1 l)) ∧ w = w' := by
 have hmx := hV.2.1
 have HV := Aside0.mk hV
 clear hV
 go_enter Try.func67, Try.ntmps67
 go_wp2_with fail
 go_loop [3] (fun i => ∃ k : Nat, k ≤ l.length ∧ i = .int .i64 k ∧ Aside0 (lowB 1 (l.take k) = true)) (fun i => l.length - (intOf i).toNat)
 case atStart => exact ⟨0, by omega, rfl, ⟨by rw [List.take_zero]; exact low_nil _⟩⟩
 case round =>
  obtain ⟨k, hk, rfl, HL⟩ := hrel
  by_cases hlt : k < l.length
  ·have t1 : decide (k < l.length) = true := decide_eq_true hlt
   have t2 : decide ((k : Int) < (l.length : Int)) = true := decide_eq_true (by omega)
   obtain ⟨ad, rfl, hc0⟩ := C_cell HV.out (by omega)
   have hc := hc0 k hlt
   clear hc0
   obtain ⟨x, hx⟩ : ∃ x, l.getD k 0 = x := ⟨_, rfl⟩
   rw [hx] at hc
   have HX := Aside0.mk hx
   clear hx
   have hkl := hlt
   clear hlt
   by_cases hb : wB 0 1 x = true
   ·have HB := Aside0.mk hb
    have hb2 := wB_iff.1 hb; clear hb; rcases (show x = 0 ∨ x = 1 by omega) with e | e <;> subst e <;> clear hb2 <;> (first | (have u0 : ((0 : Int) != 0) = false := rfl) | skip)
    all_goals
     go_wp2_with fail
     go_round
     case rel => exact ⟨k + 1, by omega, by go_num, ⟨low_take hkl HL.out (by rw [HX.out]; exact HB.out)⟩⟩
     case measure => simp [intOf]; omega
   ·have hb' : wB 0 1 x = false := by simpa using hb
    have HN : Aside0 (lowB 1 l = false) := ⟨low_bad hkl (by rw [HX.out]; exact hb')⟩
    have hb2 : ¬ (0 ≤ x ∧ x ≤ 1) := fun a => hb (wB_iff.2 a)
    have u0 : (x != 0) = true := bne_iff_ne.2 (by omega)
    have u1 : (x != 1) = true := bne_iff_ne.2 (by omega)
    clear hb hb' hb2
    go_wp2_with fail
    go_ret
    exact ⟨by rw [HN.out]; rfl, rfl⟩
  ·obtain rfl : k = l.length := by omega
   have t1 : decide (l.length < l.length) = false := decide_eq_false (by omega)
   have t2 : decide ((l.length : Int) < (l.length : Int)) = false := decide_eq_false (by omega)
   have hl := HL.out
   rw [List.take_of_length_le (Nat.le_refl _)] at hl
   have HL2 := Aside0.mk hl
   clear hl hlt
   go_wp2_with fail
   go_ret
   exact ⟨by rw [HL2.out]; rfl, rfl⟩
def chkB (f a c : Int) (v : List Int) (t n o : Int) : Bool :=
 if f = 1 ∨ f = 2 then t == 0 && n == 0 && o == 0 && (v.length : Int) == 0 && wB 1 2000 c && spB a c
 else if f = 3 ∨ f = 4 then t == 0 && n == 0 && o == 0 && (v.length : Int) == 0 && wB 1 125 c && spB a c
 else if f = 5 then t == 0 && n == 0 && o == 0 && c == 0 && smB 1 1 1 v && spB a 1
 else if f = 6 then t == 0 && n == 0 && o == 0 && c == 0 && smB 1 1 65535 v && spB a 1
 else if f = 15 then t == 0 && n == 0 && o == 0 && c == v.length && smB 1 1968 1 v && spB a v.length
 else if f = 16 then t == 0 && n == 0 && o == 0 && c == v.length && smB 1 123 65535 v && spB a v.length
 else if f = 22 then (v.length : Int) == 0 && t == 0 && c == 0 && spB a 1 && wB 0 65535 n && wB 0 65535 o
 else if f = 23 then n == 0 && o == 0 && wB 1 125 c && spB a c && smB 1 121 65535 v && spB t v.length
 else false
end Go.Proofs.Ytocicifgglkaeaa.Chk
end

section
namespace Go.Proofs.Ytocicifgglkaeaa.Chk
open Go.RowKit Go.Proofs.YtocicifgglkaeaaW.PrintWords Go.Proofs.YtocicifgglkaeaaW.PrintLast Go.Proofs.YtocicifgglkaeaaW.PrintMore Go.Proofs.Ytocicifgglkaeaa.Core Go.Proofs.Ytocicifgglkaeaa.Wk
set_option linter.unusedVariables false
set_option linter.unusedSimpArgs false
def bitB (f : Int) : Bool := decide (f = 1 ∨ f = 2 ∨ f = 5 ∨ f = 15)
set_option maxHeartbeats 4000000 in
set_option maxRecDepth 100000 in
theorem bit_c (f : Int) (w : World) : Calls Try.prog 27 #[.int .i64 f] w fun e w' => e = .returned (.bool (bitB f)) ∧ w = w' := by
 by_cases h0 : f = 1
 ·subst h0; rw [show bitB 1 = true from by decide]
  go_enter Try.func27, Try.ntmps27
  go_wp2
  go_ret
  exact ⟨rfl, rfl⟩
 by_cases h1 : f = 2
 ·subst h1; rw [show bitB 2 = true from by decide]
  go_enter Try.func27, Try.ntmps27
  go_wp2
  go_ret
  exact ⟨rfl, rfl⟩
 by_cases h2 : f = 5
 ·subst h2; rw [show bitB 5 = true from by decide]
  go_enter Try.func27, Try.ntmps27
  go_wp2
  go_ret
  exact ⟨rfl, rfl⟩
 by_cases h3 : f = 15
 ·subst h3; rw [show bitB 15 = true from by decide]
  go_enter Try.func27, Try.ntmps27
  go_wp2
  go_ret
  exact ⟨rfl, rfl⟩
 have hr : Aside0 (bitB f = false) := ⟨decide_eq_false (by omega)⟩
 rw [hr.out]
 have y0 : (f == 1) = false := beq_eq_false_iff_ne.2 h0
 have y1 : (f == 2) = false := beq_eq_false_iff_ne.2 h1
 have y2 : (f == 5) = false := beq_eq_false_iff_ne.2 h2
 have y3 : (f == 15) = false := beq_eq_false_iff_ne.2 h3
 clear h0 h1 h2 h3
 go_enter Try.func27, Try.ntmps27
 go_wp2
 go_ret
 exact ⟨rfl, rfl⟩
set_option maxHeartbeats 4000000 in
set_option maxRecDepth 100000 in
theorem refspan_c (a n : Int) (w : World) (h0 : -1000000 ≤ n) (h1 : n ≤ 1000000) : Calls Try.prog 43 #[.int .i64 a, .int .i64 n] w fun e w' => e = .returned (.bool (spB a n)) ∧ w = w' := by
 by_cases h2 : wB 0 65535 a = true
 ·have hb := wB_iff.1 h2
  have b0 := hb.1; have b1 := hb.2
  by_cases h3 : a + n ≤ 65536
  ·have t1 : decide (a + n ≤ 65536) = true := decide_eq_true h3
   have hr : Aside0 (spB a n = true) := ⟨decide_eq_true ⟨b0, b1, h3⟩⟩
   rw [hr.out]; clear h3 hb
   go_enter Try.func43, Try.ntmps43
   go_wp2_with (go_at_call 45; refine (is_c _ _).mono ?_; rintro e w' ⟨rfl, rfl⟩)
   go_ret
   exact ⟨rfl, rfl⟩
  ·have t1 : decide (a + n ≤ 65536) = false := decide_eq_false h3
   have hr : Aside0 (spB a n = false) := ⟨decide_eq_false (fun a => h3 a.2.2)⟩
   rw [hr.out]; clear h3 hb
   go_enter Try.func43, Try.ntmps43
   go_wp2_with (go_at_call 45; refine (is_c _ _).mono ?_; rintro e w' ⟨rfl, rfl⟩)
   go_ret
   exact ⟨rfl, rfl⟩
 ·have t0 : wB 0 65535 a = false := by simpa using h2
  have hr : Aside0 (spB a n = false) := ⟨decide_eq_false (fun a => h2 (wB_iff.2 ⟨a.1, a.2.1⟩))⟩
  rw [hr.out]; clear h2
  go_enter Try.func43, Try.ntmps43
  go_wp2_with (go_at_call 45; refine (is_c _ _).mono ?_; rintro e w' ⟨rfl, rfl⟩)
  go_ret
  exact ⟨rfl, rfl⟩
set_option maxHeartbeats 4000000 in
set_option maxRecDepth 100000 in
theorem vals_1 (f a c : Int) (A : Option Addr) (cc : Nat) (v : List Int) (t n o lo hi : Int) (w : World) (hV : Kd.C (Kd.int .i64) w A v.length v) (h : (v.length : Int) < lo) : Calls Try.prog 44 #[.agg #[.int .i64 f, .int .i64 a, .int .i64 c, .slice A v.length cc, .int .i64 t, .int .i64 n, .int .i64 o], .int .i64 lo, .int .i64 hi] w fun e w' => e = .returned (.bool (false)) ∧ Below w.heap.size w w' := by
 have HV := Aside0.mk hV; clear hV
 have t1 : decide ((v.length : Int) < lo) = true := decide_eq_true h
 clear h
 go_enter Try.func44, Try.ntmps44
 go_wp2_with (first | fail)
 go_ret
 exact ⟨rfl, by repeat (first | exact Below.refl _ _ | apply below_alloc)⟩
set_option maxHeartbeats 4000000 in
set_option maxRecDepth 100000 in
theorem vals_2 (f a c : Int) (A : Option Addr) (cc : Nat) (v : List Int) (t n o lo hi : Int) (w : World) (hV : Kd.C (Kd.int .i64) w A v.length v) (h0 : ¬ (v.length : Int) < lo) (h : hi < (v.length : Int)) : Calls Try.prog 44 #[.agg #[.int .i64 f, .int .i64 a, .int .i64 c, .slice A v.length cc, .int .i64 t, .int .i64 n, .int .i64 o], .int .i64 lo, .int .i64 hi] w fun e w' => e = .returned (.bool (false)) ∧ Below w.heap.size w w' := by
 have HV := Aside0.mk hV; clear hV
 have t1 : decide ((v.length : Int) < lo) = false := decide_eq_false h0; have t2 : decide (hi < (v.length : Int)) = true := decide_eq_true h
 clear h h0
 go_enter Try.func44, Try.ntmps44
 go_wp2_with (first | fail)
 go_ret
 exact ⟨rfl, by repeat (first | exact Below.refl _ _ | apply below_alloc)⟩
set_option maxHeartbeats 4000000 in
set_option maxRecDepth 100000 in
theorem vals_3 (f a c : Int) (A : Option Addr) (cc : Nat) (v : List Int) (t n o lo hi : Int) (w : World) (hV : Kd.C (Kd.int .i64) w A v.length v) (h0 : ¬ (v.length : Int) < lo) (h : ¬ hi < (v.length : Int)) (hbt : bitB f = true) : Calls Try.prog 44 #[.agg #[.int .i64 f, .int .i64 a, .int .i64 c, .slice A v.length cc, .int .i64 t, .int .i64 n, .int .i64 o], .int .i64 lo, .int .i64 hi] w fun e w' => e = .returned (.bool (lowB 1 v)) ∧ Below w.heap.size w w' := by
 have HV := Aside0.mk hV; clear hV
 have t1 : decide ((v.length : Int) < lo) = false := decide_eq_false h0; have t2 : decide (hi < (v.length : Int)) = false := decide_eq_false h; have HBT := Aside0.mk hbt
 clear h h0 hbt
 go_enter Try.func44, Try.ntmps44
 go_wp2_with (first | (go_at_call 27; refine (bit_c _ _).mono ?_; rw [HBT.out]; rintro e w' ⟨rfl, rfl⟩) | (go_at_call 67; refine (bits_c A cc v _ ?hv).mono ?_; (case hv => (with_reducible repeat (first | refine Kd.C_alloc ?_ _ | refine Kd.C_drewN ?_ _ | refine Kd.C_drew ?_)); exact HV.out); rintro e w' ⟨rfl, rfl⟩))
 go_ret
 exact ⟨rfl, by repeat (first | exact Below.refl _ _ | apply below_alloc)⟩
set_option maxHeartbeats 4000000 in
set_option maxRecDepth 100000 in
theorem vals_4 (f a c : Int) (A : Option Addr) (cc : Nat) (v : List Int) (t n o lo hi : Int) (w : World) (hV : Kd.C (Kd.int .i64) w A v.length v) (h0 : ¬ (v.length : Int) < lo) (h : ¬ hi < (v.length : Int)) (hbt : bitB f = false) : Calls Try.prog 44 #[.agg #[.int .i64 f, .int .i64 a, .int .i64 c, .slice A v.length cc, .int .i64 t, .int .i64 n, .int .i64 o], .int .i64 lo, .int .i64 hi] w fun e w' => e = .returned (.bool (lowB 65535 v)) ∧ Below w.heap.size w w' := by
 have HV := Aside0.mk hV; clear hV
 have t1 : decide ((v.length : Int) < lo) = false := decide_eq_false h0; have t2 : decide (hi < (v.length : Int)) = false := decide_eq_false h; have HBT := Aside0.mk hbt
 clear h h0 hbt
 go_enter Try.func44, Try.ntmps44
 go_wp2_with (first | (go_at_call 27; refine (bit_c _ _).mono ?_; rw [HBT.out]; rintro e w' ⟨rfl, rfl⟩) | (go_at_call 68; refine (words_c A cc v _ ?hv).mono ?_; (case hv => (with_reducible repeat (first | refine Kd.C_alloc ?_ _ | refine Kd.C_drewN ?_ _ | refine Kd.C_drew ?_)); exact HV.out); rintro e w' ⟨rfl, rfl⟩))
 go_ret
 exact ⟨rfl, by repeat (first | exact Below.refl _ _ | apply below_alloc)⟩
theorem vals_c (f a c : Int) (A : Option Addr) (cc : Nat) (v : List Int) (t n o lo hi : Int) (w : World) (hV : Kd.C (Kd.int .i64) w A v.length v) {m : Int} (hm : (if bitB f = true then 1 else 65535) = m) : Calls Try.prog 44 #[.agg #[.int .i64 f, .int .i64 a, .int .i64 c, .slice A v.length cc, .int .i64 t, .int .i64 n, .int .i64 o], .int .i64 lo, .int .i64 hi] w fun e w' => e = .returned (.bool (smB lo hi m v)) ∧ Below w.heap.size w w' := by
 unfold smB
 by_cases h0 : (v.length : Int) < lo
 ·rw [wB_no (fun a => by omega), Bool.false_and]; exact vals_1 f a c A cc v t n o lo hi w hV h0
 by_cases h1 : hi < (v.length : Int)
 ·rw [wB_no (fun a => by omega), Bool.false_and]; exact vals_2 f a c A cc v t n o lo hi w hV h0 h1
 rw [wB_yes (by omega) (by omega), Bool.true_and]
 cases hb : bitB f with
 | true => rw [hb, if_pos rfl] at hm; subst hm; exact vals_3 f a c A cc v t n o lo hi w hV h0 h1 hb
 | false => rw [hb, if_neg (by simp)] at hm; subst hm; exact vals_4 f a c A cc v t n o lo hi w hV h0 h1 hb
theorem cells7 {w : World} {g : Nat} {v0 v1 v2 v3 v4 v5 v6 : Value} {T : TypeId} (h : w.heap[g]? = some (.cells #[v0, v1, v2, v3, v4, v5, v6] T (0, 0))) : w.cell? ⟨g, 0, none⟩ = some v0 ∧ w.cell? ⟨g, 1, none⟩ = some v1 ∧ w.cell? ⟨g, 2, none⟩ = some v2 ∧ w.cell? ⟨g, 3, none⟩ = some v3 ∧ w.cell? ⟨g, 4, none⟩ = some v4 ∧ w.cell? ⟨g, 5, none⟩ = some v5 ∧ w.cell? ⟨g, 6, none⟩ = some v6 :=
 ⟨(blk_cell h 0).trans rfl, (blk_cell h 1).trans rfl, (blk_cell h 2).trans rfl, (blk_cell h 3).trans rfl, (blk_cell h 4).trans rfl, (blk_cell h 5).trans rfl, (blk_cell h 6).trans rfl⟩
end Go.Proofs.Ytocicifgglkaeaa.Chk
end

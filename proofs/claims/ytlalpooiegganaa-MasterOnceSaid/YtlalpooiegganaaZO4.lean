/- The words, contracts and walks that this claim leans on, put together by a program of this session (part 4). -/
import Derived.Test.YtlalpooiegganaaZO3
section
namespace Go.Proofs.Ytlalpooiegganaa.PG
open Go.RowKit Go.Proofs.YtlalpooiegganaaW.PrintWords Go.Proofs.YtlalpooiegganaaW.PrintLast Go.Proofs.YtlalpooiegganaaW.PrintMore
attribute [local go_sem] max2_int min2_int max_two min_two max_three min_three max_four min_four   
set_option linter.unusedVariables false
set_option linter.unusedSimpArgs false
open Go.Proofs.Ytlalpooiegganaa.Ext Go.Proofs.Ytlalpooiegganaa.PP Go.Proofs.Ytlalpooiegganaa.ExtF Go.Proofs.Ytlalpooiegganaa.ExtM
mutual
def pdu_AnswerParse.j1 : Nat → List Int → Int → Int → Int → List Int → Int → Int → Int → List Int → Int → Option (List Int × Int × Int)
 | 0, _, _, _, _, _, _, _, _, _, _ => none
 | k + 1, x1, x247000, x247001, x247002, x247003, x247004, x247005, x247006, x250000, x250001 => (pdu_AnswerBytes.f k x247000 x247001 x247002 x247003 x247004 x247005 x247006 x250000 x250001).bind fun bt269 => (if bt269.2 = 0 then ((bytes_Equal.f bt269.1 x1).bind fun t273 => (if t273 = true then (some (x250000, x250001, 0)) else (some (([] : List Int), 0, 4)))) else (some (([] : List Int), 0, 4)))
def pdu_AnswerParse.j0 : Nat → List Int → Bool → Int → Int → Int → List Int → Int → Int → Int → Int → Option (List Int × Int × Int)
 | 0, _, _, _, _, _, _, _, _, _, _ => none
 | k + 1, x1, x39, x247000, x247001, x247002, x247003, x247004, x247005, x247006, x250001 => if x39 = true then (if 2 ≤ (x1.length : Int) then ((wire_Unpack.f k (x1.drop 2) x247002).bind fun bt253 => (pdu_AnswerParse.j1 k x1 x247000 x247001 x247002 x247003 x247004 x247005 x247006 bt253.1 x250001)) else (none)) else (if x247000 = 3 then (if 2 ≤ (x1.length : Int) then ((pdu_words.f k (x1.drop 2)).bind fun t258 => (pdu_AnswerParse.j1 k x1 x247000 x247001 x247002 x247003 x247004 x247005 x247006 t258 x250001)) else (none)) else (if x247000 = 4 then (if 2 ≤ (x1.length : Int) then ((pdu_words.f k (x1.drop 2)).bind fun t262 => (pdu_AnswerParse.j1 k x1 x247000 x247001 x247002 x247003 x247004 x247005 x247006 t262 x250001)) else (none)) else (if x247000 = 23 then (if 2 ≤ (x1.length : Int) then ((pdu_words.f k (x1.drop 2)).bind fun t266 => (pdu_AnswerParse.j1 k x1 x247000 x247001 x247002 x247003 x247004 x247005 x247006 t266 x250001)) else (none)) else (pdu_AnswerParse.j1 k x1 x247000 x247001 x247002 x247003 x247004 x247005 x247006 ([] : List Int) x250001))))
end
def pdu_AnswerParse.f (k : Nat) (a0_0 : Int) (a0_1 : Int) (a0_2 : Int) (l0_3 : List Int) (a0_4 : Int) (a0_5 : Int) (a0_6 : Int) (l1 : List Int) : Option (List Int × Int × Int) := (pdu_Check.f a0_0 a0_1 a0_2 l0_3 a0_4 a0_5 a0_6).bind fun t248 => (if t248 = 0 then (if (l1.length : Int) < 2 then (some (([] : List Int), 0, 4)) else (if 0 < (l1.length : Int) then (if (wrap64 (rd l1 0)) = (Go.bits .or .i64 a0_0 128) then (if 1 < (l1.length : Int) then (if (wrap64 (rd l1 1)) = 0 then (some (([] : List Int), wrap64 (rd l1 1), 4)) else (pdu_AnswerParse.j1 k l1 a0_0 a0_1 a0_2 l0_3 a0_4 a0_5 a0_6 ([] : List Int) (wrap64 (rd l1 1)))) else (none)) else (if a0_0 = 1 then (pdu_AnswerParse.j0 k l1 true a0_0 a0_1 a0_2 l0_3 a0_4 a0_5 a0_6 0) else (pdu_AnswerParse.j0 k l1 (a0_0 == 2) a0_0 a0_1 a0_2 l0_3 a0_4 a0_5 a0_6 0))) else (none))) else (some (([] : List Int), 0, t248)))
theorem pdu_AnswerParse.mono_l : ∀ k, (∀ y0 y1 y2 y3 y4 y5 y6 y7 y8 y9, LeO (pdu_AnswerParse.j1 k y0 y1 y2 y3 y4 y5 y6 y7 y8 y9) (pdu_AnswerParse.j1 (k + 1) y0 y1 y2 y3 y4 y5 y6 y7 y8 y9)) ∧ (∀ y0 y1 y2 y3 y4 y5 y6 y7 y8 y9, LeO (pdu_AnswerParse.j0 k y0 y1 y2 y3 y4 y5 y6 y7 y8 y9) (pdu_AnswerParse.j0 (k + 1) y0 y1 y2 y3 y4 y5 y6 y7 y8 y9))
 | 0 => ⟨fun _ _ _ _ _ _ _ _ _ _ r h => by simp [pdu_AnswerParse.j1] at h, fun _ _ _ _ _ _ _ _ _ _ r h => by simp [pdu_AnswerParse.j0] at h⟩
 | k + 1 => by
  obtain ⟨ih0, ih1⟩ := pdu_AnswerParse.mono_l k
  refine ⟨?_, ?_⟩
  ·intro y0 y1 y2 y3 y4 y5 y6 y7 y8 y9
   unfold pdu_AnswerParse.j1
   repeat' first
   | (with_reducible exact ih0 _ _ _ _ _ _ _ _ _ _)
   | (with_reducible exact ih1 _ _ _ _ _ _ _ _ _ _)
   | (with_reducible exact pdu_AnswerBytes.mono _ _ _ _ _ _ _ _ _ _)
   | (with_reducible exact pdu_words.mono _ _)
   | (with_reducible exact wire_Unpack.mono _ _ _)
   | (with_reducible exact LeO.refl _)
   | (with_reducible exact LeO.none _)
   | (with_reducible refine LeO.ite ?_ ?_)
   | (with_reducible refine LeO.bind ?_ (fun _ => ?_))
   | exact ih0 _ _ _ _ _ _ _ _ _ _
   | exact ih1 _ _ _ _ _ _ _ _ _ _
   | exact pdu_AnswerBytes.mono _ _ _ _ _ _ _ _ _ _
   | exact pdu_words.mono _ _
   | exact wire_Unpack.mono _ _ _
   | exact LeO.none _
   | refine LeO.ite ?_ ?_
   | refine LeO.bind ?_ (fun _ => ?_)
  ·intro y0 y1 y2 y3 y4 y5 y6 y7 y8 y9
   unfold pdu_AnswerParse.j0
   repeat' first
   | (with_reducible exact ih0 _ _ _ _ _ _ _ _ _ _)
   | (with_reducible exact ih1 _ _ _ _ _ _ _ _ _ _)
   | (with_reducible exact pdu_AnswerBytes.mono _ _ _ _ _ _ _ _ _ _)
   | (with_reducible exact pdu_words.mono _ _)
   | (with_reducible exact wire_Unpack.mono _ _ _)
   | (with_reducible exact LeO.refl _)
   | (with_reducible exact LeO.none _)
   | (with_reducible refine LeO.ite ?_ ?_)
   | (with_reducible refine LeO.bind ?_ (fun _ => ?_))
   | exact ih0 _ _ _ _ _ _ _ _ _ _
   | exact ih1 _ _ _ _ _ _ _ _ _ _
   | exact pdu_AnswerBytes.mono _ _ _ _ _ _ _ _ _ _
   | exact pdu_words.mono _ _
   | exact wire_Unpack.mono _ _ _
   | exact LeO.none _
   | refine LeO.ite ?_ ?_
   | refine LeO.bind ?_ (fun _ => ?_)
theorem pdu_AnswerParse.mono : ∀ a0 a1 a2 a3 a4 a5 a6 a7 k, LeO (pdu_AnswerParse.f k a0 a1 a2 a3 a4 a5 a6 a7) (pdu_AnswerParse.f (k + 1) a0 a1 a2 a3 a4 a5 a6 a7) := by
 intro a0 a1 a2 a3 a4 a5 a6 a7 k
 obtain ⟨ih0, ih1⟩ := pdu_AnswerParse.mono_l k
 unfold pdu_AnswerParse.f
 repeat' first
  | (with_reducible exact ih0 _ _ _ _ _ _ _ _ _ _)
  | (with_reducible exact ih1 _ _ _ _ _ _ _ _ _ _)
  | (with_reducible exact pdu_AnswerBytes.mono _ _ _ _ _ _ _ _ _ _)
  | (with_reducible exact pdu_words.mono _ _)
  | (with_reducible exact wire_Unpack.mono _ _ _)
  | (with_reducible exact LeO.refl _)
  | (with_reducible exact LeO.none _)
  | (with_reducible refine LeO.ite ?_ ?_)
  | (with_reducible refine LeO.bind ?_ (fun _ => ?_))
  | exact ih0 _ _ _ _ _ _ _ _ _ _
  | exact ih1 _ _ _ _ _ _ _ _ _ _
  | exact pdu_AnswerBytes.mono _ _ _ _ _ _ _ _ _ _
  | exact pdu_words.mono _ _
  | exact wire_Unpack.mono _ _ _
  | exact LeO.none _
  | refine LeO.ite ?_ ?_
  | refine LeO.bind ?_ (fun _ => ?_)
def pdu_AnswerParse.T7 : Bool × List (List Nat × List Nat) := (true, [([], []), ([0], [0]), ([1], [1]), ([2], [2]), ([], []), ([4], [4]), ([5], [5]), ([3, 6], [3, 6]), ([7], [7])])
def pdu_AnswerParse.B7 : List Nat := [0, 1, 3, 7, 0, 16, 48, 127, 255]
theorem pdu_AnswerParse.tab7 : rtab .any (opsOf Try.f35 7) = pdu_AnswerParse.T7 := by kernel_rfl
theorem pdu_AnswerParse.bits7 : waitsOk pdu_AnswerParse.T7.2 pdu_AnswerParse.B7 = true := by kernel_rfl
def pdu_AnswerParse.T12 : Bool × List (List Nat × List Nat) := (true, [([], []), ([0], [0]), ([], []), ([2], [2]), ([1, 3], [1, 3]), ([4], [4]), ([5], [5]), ([5], [5]), ([0, 1, 2, 3, 4, 5, 6], []), ([8, 6, 4, 0, 1, 2, 3, 4, 5, 6], [6, 8])])
def pdu_AnswerParse.B12 : List Nat := [0, 1, 0, 4, 15, 31, 63, 63, 127, 383]
theorem pdu_AnswerParse.tab12 : rtab .any (opsOf Try.f35 12) = pdu_AnswerParse.T12 := by kernel_rfl
theorem pdu_AnswerParse.bits12 : waitsOk pdu_AnswerParse.T12.2 pdu_AnswerParse.B12 = true := by kernel_rfl
set_option maxHeartbeats 8000000 in
set_option maxRecDepth 100000 in
theorem pdu_AnswerParse.calls (k : Nat) (a0_0 : Int) (a0_1 : Int) (a0_2 : Int) (A0_3 : Option Addr) (c0_3 : Nat) (l0_3 : List Int) (a0_4 : Int) (a0_5 : Int) (a0_6 : Int) (A1 : Option Addr) (c1 : Nat) (l1 : List Int) (r1 : List Int) (r2 : Int) (r3 : Int) (w : World) (hr0_3 : Kd.C (Kd.int .i64) w A0_3 l0_3.length l0_3) (hc0_3 : l0_3.length ≤ c0_3) (hr1 : Kd.C (Kd.int .u8) w A1 l1.length l1) (hc1 : l1.length ≤ c1) (h : pdu_AnswerParse.f k a0_0 a0_1 a0_2 l0_3 a0_4 a0_5 a0_6 l1 = some (r1, r2, r3)) :
 Calls Try.prog 35 #[.agg #[.int .i64 a0_0, .int .i64 a0_1, .int .i64 a0_2, .slice A0_3 l0_3.length c0_3, .int .i64 a0_4, .int .i64 a0_5, .int .i64 a0_6], .slice A1 l1.length c1] w fun e w' => ∃ v0_ : Value, e = .returned (.tuple #[.agg #[v0_, .int .i64 r2], .int .i64 r3]) ∧ Kd.R (Kd.int .i64) 3 w' w.heap.size (fun _ => True) v0_ r1 ∧ Below w.heap.size w w' := by
 have hu31 := Try.underlying31
 have hu46 := Try.underlying46
 have HR0_3 := Aside0.mk hr0_3
 have HC0_3 := Aside0.mk hc0_3
 clear hr0_3 hc0_3
 have HR1 := Aside0.mk hr1
 have HC1 := Aside0.mk hc1
 clear hr1 hc1
 have HB := Aside0.mk (Below.refl w.heap.size w)
 have H : ((pdu_Check.f a0_0 a0_1 a0_2 l0_3 a0_4 a0_5 a0_6).bind fun t248 => (if t248 = 0 then (if (l1.length : Int) < 2 then (some (([] : List Int), 0, 4)) else (if 0 < (l1.length : Int) then (if (wrap64 (rd l1 0)) = (Go.bits .or .i64 a0_0 128) then (if 1 < (l1.length : Int) then (if (wrap64 (rd l1 1)) = 0 then (some (([] : List Int), wrap64 (rd l1 1), 4)) else (pdu_AnswerParse.j1 k l1 a0_0 a0_1 a0_2 l0_3 a0_4 a0_5 a0_6 ([] : List Int) (wrap64 (rd l1 1)))) else (none)) else (if a0_0 = 1 then (pdu_AnswerParse.j0 k l1 true a0_0 a0_1 a0_2 l0_3 a0_4 a0_5 a0_6 0) else (pdu_AnswerParse.j0 k l1 (a0_0 == 2) a0_0 a0_1 a0_2 l0_3 a0_4 a0_5 a0_6 0))) else (none))) else (some (([] : List Int), 0, t248)))) = some (r1, r2, r3) := h
 clear h
 replace H := Option.bind_eq_some_iff.mp H
 obtain ⟨t248, A30, H⟩ := H
 replace H : (if t248 = 0 then (if (l1.length : Int) < 2 then (some (([] : List Int), 0, 4)) else (if 0 < (l1.length : Int) then (if (wrap64 (rd l1 0)) = (Go.bits .or .i64 a0_0 128) then (if 1 < (l1.length : Int) then (if (wrap64 (rd l1 1)) = 0 then (some (([] : List Int), wrap64 (rd l1 1), 4)) else (pdu_AnswerParse.j1 k l1 a0_0 a0_1 a0_2 l0_3 a0_4 a0_5 a0_6 ([] : List Int) (wrap64 (rd l1 1)))) else (none)) else (if a0_0 = 1 then (pdu_AnswerParse.j0 k l1 true a0_0 a0_1 a0_2 l0_3 a0_4 a0_5 a0_6 0) else (pdu_AnswerParse.j0 k l1 (a0_0 == 2) a0_0 a0_1 a0_2 l0_3 a0_4 a0_5 a0_6 0))) else (none))) else (some (([] : List Int), 0, t248))) = some (r1, r2, r3) := H
 have A3 := Aside0.mk A30
 clear A30
 by_cases c4 : t248 = 0
 ·rw [if_pos c4] at H
  have c4b0 : (t248 == 0) = true := beq_iff_eq.mpr c4
  have c4b1 : (t248 != 0) = false := bne_eq_false_iff_eq.mpr c4
  clear c4
  have HC5 := Aside0.mk H
  clear H
  go_enter Try.func35, Try.ntmps35
  go_upto_block 0 with (first | ((with_reducible refine gate_dst (N := 2) rfl ?_); refine bx_ (N := 2) (cs := #[.int .i64 a0_0, .int .i64 a0_1, .int .i64 a0_2, .slice A0_3 l0_3.length c0_3, .int .i64 a0_4, .int .i64 a0_5, .int .i64 a0_6]) (t := 31) ?_; intro gb246 hg w6 hbox hb; have n0_ := Aside0.mk (below_step (bl0_ HB) hb); have n1_ := Aside0.mk (hbox); have n2_ := Aside0.mk ((by rw [hg]; exact (below_size (bl0_ HB)) : w.heap.size ≤ gb246)); have n3_ := Aside0.mk ((by rw [hg]; exact (below_size (bl0_ HB)) : w.heap.size ≤ gb246)); clear HB; have HB := n0_; have BK246 := n1_; have GW246 := n2_; have GE246 := n3_; clear n0_ n1_ n2_ n3_; clear hb hbox hg) | ((with_reducible refine gate_dst (N := 4) rfl ?_); refine bx_ (N := 4) (cs := #[.slice none 0 0, .int .i64 0]) (t := 46) ?_; intro gb247 hg w7 hbox hb; have n0_ := Aside0.mk (blk_below (g := gb246) (bk_ BK246) hb); have n1_ := Aside0.mk (below_step (bl1_ HB GE246) hb); have n2_ := Aside0.mk (hbox); have n3_ := Aside0.mk ((by rw [hg]; exact (below_size (bl1_ HB GE246)) : w.heap.size ≤ gb247)); have n4_ := Aside0.mk ((by rw [hg]; exact (below_size (bl1_ HB GE246)) : w.heap.size ≤ gb247)); have n5_ := Aside0.mk ((by rw [hg]; exact Nat.ne_of_lt (blk_lt (g := gb246) (bk_ BK246)) : gb246 ≠ gb247)); have n6_ := Aside0.mk ((by rw [hg]; exact Nat.ne_of_gt (blk_lt (g := gb246) (bk_ BK246)) : gb247 ≠ gb246)); clear BK246; clear HB; have BK246 := n0_; have HB := n1_; have BK247 := n2_; have GW247 := n3_; have GE247 := n4_; have NB246_247 := n5_; have NB247_246 := n6_; clear n0_ n1_ n2_ n3_ n4_ n5_ n6_; clear hb hbox hg; have hnb8 := NB246_247.out; have hnc8 := NB247_246.out; refine cz7_ BK246.out ?_; intro hcz9_0 hcz9_1 hcz9_2 hcz9_3 hcz9_4 hcz9_5 hcz9_6 hfz9_0 hfz9_1 hfz9_2 hfz9_3 hfz9_4 hfz9_5 hfz9_6) | ((with_reducible refine gate_callee (f := 29) rfl ?_); refine goesL_ (some 11) rfl rfl Try.func29 (by kernel_rfl) rfl #[.agg #[.int .i64 a0_0, .int .i64 a0_1, .int .i64 a0_2, .slice A0_3 l0_3.length c0_3, .int .i64 a0_4, .int .i64 a0_5, .int .i64 a0_6]] rfl ar_ ?_; (with_reducible refine (pdu_Check.calls a0_0 a0_1 a0_2 _ _ l0_3 a0_4 a0_5 a0_6 t248 _ ?side1 ?side2 A3.out).mono ?_); (case side1 => exact sc_ (Kd.C_below HR0_3.out HB.out)); (case side2 => exact HC0_3.out); rintro e w10 ⟨rfl, hb⟩; refine ⟨_, rfl, ?_⟩; have n0_ := Aside0.mk (blk_below (g := gb246) (bk_ BK246) hb); have n1_ := Aside0.mk (blk_below (g := gb247) (bk_ BK247) hb); have n2_ := Aside0.mk (below_step (bl2_ HB GE246 GE247) hb); clear BK246; clear BK247; clear HB; have BK246 := n0_; have BK247 := n1_; have HB := n2_; clear n0_ n1_ n2_; (try clear hb); (try clear hb2); (try clear hk); (try clear hi)) | ((with_reducible refine gate_dst (N := 7) rfl ?_); refine bx_ (N := 7) (cs := #[.slice none 0 0, .int .i64 0]) (t := 46) ?_; intro gb249 hg w11 hbox hb; have n0_ := Aside0.mk (blk_below (g := gb246) (bk_ BK246) hb); have n1_ := Aside0.mk (blk_below (g := gb247) (bk_ BK247) hb); have n2_ := Aside0.mk (below_step (bl2_ HB GE246 GE247) hb); have n3_ := Aside0.mk (hbox); have n4_ := Aside0.mk ((by rw [hg]; exact (below_size (bl2_ HB GE246 GE247)) : w.heap.size ≤ gb249)); have n5_ := Aside0.mk ((by rw [hg]; exact (below_size (bl2_ HB GE246 GE247)) : w.heap.size ≤ gb249)); have n6_ := Aside0.mk ((by rw [hg]; exact Nat.ne_of_lt (blk_lt (g := gb246) (bk_ BK246)) : gb246 ≠ gb249)); have n7_ := Aside0.mk ((by rw [hg]; exact Nat.ne_of_gt (blk_lt (g := gb246) (bk_ BK246)) : gb249 ≠ gb246)); have n8_ := Aside0.mk ((by rw [hg]; exact Nat.ne_of_lt (blk_lt (g := gb247) (bk_ BK247)) : gb247 ≠ gb249)); have n9_ := Aside0.mk ((by rw [hg]; exact Nat.ne_of_gt (blk_lt (g := gb247) (bk_ BK247)) : gb249 ≠ gb247)); clear BK246; clear BK247; clear HB; have BK246 := n0_; have BK247 := n1_; have HB := n2_; have BK249 := n3_; have GW249 := n4_; have GE249 := n5_; have NB246_249 := n6_; have NB249_246 := n7_; have NB247_249 := n8_; have NB249_247 := n9_; clear n0_ n1_ n2_ n3_ n4_ n5_ n6_ n7_ n8_ n9_; clear hb hbox hg))
  (try simp only [Act.put, List.setIfInBounds_toArray, List.set_cons_zero, List.set_cons_succ])
  go_cut [] (fun wc => ∃ (kq : Nat) (x248001_4 : Int) (x250000_4 : List Int) (x250001_4 : Int) (u250000 : Value), Aside0 (pdu_AnswerParse.j1 kq l1 a0_0 a0_1 a0_2 l0_3 a0_4 a0_5 a0_6 x250000_4 x250001_4 = some (r1, r2, r3)) ∧ Aside0 (kq ≤ k) ∧ Aside0 (Kd.R (Kd.int .i64) 3 wc w.heap.size (fun _ => True) u250000 x250000_4) ∧ Aside0 (wc.heap[gb246]? = some (.cells #[.int .i64 a0_0, .int .i64 a0_1, .int .i64 a0_2, (.slice A0_3 l0_3.length c0_3), .int .i64 a0_4, .int .i64 a0_5, .int .i64 a0_6] 31 (0, 0))) ∧ Aside0 (wc.heap[gb247]? = some (.cells #[(.slice none 0 0), .int .i64 x248001_4] 46 (0, 0))) ∧ Aside0 (wc.heap[gb249]? = some (.cells #[u250000, .int .i64 x250001_4] 46 (0, 0))) ∧ Aside0 (Below w.heap.size w wc))
  case first =>
   have H := HC5.out
   clear HC5
   by_cases c12 : (l1.length : Int) < 2
   ·rw [if_pos c12] at H
    have c12b0 : decide ((l1.length : Int) < 2) = true := decide_eq_true c12
    have c12b1 : decide (l1.length < 2) = true := decide_eq_true (by omega)
    clear c12
    (first | rw [c12b0] | (simp only [i64_w, i32_w]; rw [c12b0]) | skip)
    simp only [Option.some.injEq, Prod.mk.injEq] at H
    obtain ⟨rfl, rfl, rfl⟩ := H
    have hnb13 := NB249_246.out
    have hnc13 := NB246_249.out
    have hnb14 := NB249_247.out
    have hnc14 := NB247_249.out
    refine cz2_ BK249.out ?_; intro hcz15_0 hcz15_1 hfz15_0 hfz15_1
    have hnb16 := NB247_246.out
    have hnc16 := NB246_247.out
    refine cz2_ BK247.out ?_; intro hcz17_0 hcz17_1 hfz17_0 hfz17_1
    go_wp2
    refine bodyPost_ret (results_ct rfl _ _ gb247 46 #[.slice none 0 0, .int .i64 0] (0, 0) _ rfl (by (with_reducible repeat (first | refine blk_drewN ?_ _ | refine blk_drew ?_ | refine blk_alloc ?_ _)); refine blk_put (cs := #[.slice none 0 0, .int .i64 0]) ?_ 1 _ rfl; (with_reducible repeat (first | refine blk_drewN ?_ _ | refine blk_drew ?_ | refine blk_alloc ?_ _)); refine blk_put (cs := #[.slice none 0 0, .int .i64 0]) ?_ 0 _ rfl; (with_reducible repeat (first | refine blk_drewN ?_ _ | refine blk_drew ?_ | refine blk_alloc ?_ _)); exact BK247.out) Try.underlying46 rfl (by kernel_rfl)) rfl ?_
    exact ⟨_, er_, by first | exact Kd.R_nil _ _ _ _ _ | exact Kd.N_nil _ _ _ _ _ | exact Kd.V_nil _ _ _ _ _ | exact Kd.Q_nil _ _ _ _ _ | exact Kd.S_nil _ _ _ _ _, bl3_ HB GE246 GE247 GE249⟩
   ·rw [if_neg c12] at H
    have c12b0 : decide ((l1.length : Int) < 2) = false := decide_eq_false c12
    have c12b1 : decide (l1.length < 2) = false := decide_eq_false (by omega)
    clear c12
    (first | rw [c12b0] | (simp only [i64_w, i32_w]; rw [c12b0]) | skip)
    by_cases c18 : 0 < (l1.length : Int)
    ·rw [if_pos c18] at H
     have c18b0 : decide (0 < (l1.length : Int)) = true := decide_eq_true c18
     have c18b1 : decide (0 < l1.length) = true := decide_eq_true (by omega)
     clear c18
     by_cases c19 : (wrap64 (rd l1 0)) = (Go.bits .or .i64 a0_0 128)
     ·rw [if_pos c19] at H
      have c19b0 : ((wrap64 (rd l1 0)) == (Go.bits .or .i64 a0_0 128)) = true := beq_iff_eq.mpr c19
      have c19b1 : ((wrap64 (rd l1 0)) != (Go.bits .or .i64 a0_0 128)) = false := bne_eq_false_iff_eq.mpr c19
      clear c19
      by_cases c20 : 1 < (l1.length : Int)
      ·rw [if_pos c20] at H
       have c20b0 : decide (1 < (l1.length : Int)) = true := decide_eq_true c20
       have c20b1 : decide (1 < l1.length) = true := decide_eq_true (by omega)
       clear c20
       by_cases c21 : (wrap64 (rd l1 1)) = 0
       ·rw [if_pos c21] at H
        have c21b0 : ((wrap64 (rd l1 1)) == 0) = true := beq_iff_eq.mpr c21
        have c21b1 : ((wrap64 (rd l1 1)) != 0) = false := bne_eq_false_iff_eq.mpr c21
        clear c21
        simp only [Option.some.injEq, Prod.mk.injEq] at H
        obtain ⟨rfl, rfl, rfl⟩ := H
        try go_wp2
        have n0_ := Aside0.mk (blk_drew BK246.out)
        have n1_ := Aside0.mk (blk_drew BK247.out)
        have n2_ := Aside0.mk (blk_drew BK249.out)
        have n3_ := Aside0.mk (below_drew1 HB.out)
        clear BK246
        clear BK247
        clear BK249
        clear HB
        have BK246 := n0_
        have BK247 := n1_
        have BK249 := n2_
        have HB := n3_
        clear n0_ n1_ n2_ n3_
        have p250 : 0 ≤ (0 : Int) := (by omega)
        have q250 : 0 < (l1.length : Int) := of_decide_eq_true (by first | (with_reducible assumption) | assumption)
        obtain ⟨ad250, e250, hx250_0⟩ := Kd.at_int HR1.out 0 p250 q250
        have hw250_0 := hx250_0
        (try rw [show ((0 : Int)).toNat = 0 from rfl] at hw250_0)
        (try rw [show 0 * 1 = 0 from rfl] at hw250_0)
        (try rw [Addr.add_zero'] at hw250_0)
        cases e250
        have qi250 : (0 < l1.length) = True := eq_true (by omega)
        (try rw [show ((0 : Int)).toNat = 0 from rfl] at hx250_0)
        (try rw [Addr.add_zero'] at hx250_0)
        replace hx250_0 := (HB.out.cell (World.block_lt_of_cell? w _ hx250_0)).trans hx250_0
        replace p250 := eq_true p250
        replace q250 := eq_true q250
        refine start_ (n := 9) (S := fun w' => w'.cell? ⟨gb246, 0, none⟩ = some (.int .i64 a0_0) ∧ w'.cell? ⟨gb246, 1, none⟩ = some (.int .i64 a0_1) ∧ w'.cell? ⟨gb246, 2, none⟩ = some (.int .i64 a0_2) ∧ w'.cell? ⟨gb246, 3, none⟩ = some (.slice A0_3 l0_3.length c0_3) ∧ w'.cell? ⟨gb246, 4, none⟩ = some (.int .i64 a0_4) ∧ w'.cell? ⟨gb246, 5, none⟩ = some (.int .i64 a0_5) ∧ w'.cell? ⟨gb246, 6, none⟩ = some (.int .i64 a0_6) ∧ w'.cell? ad250 = some (.int .u8 (rd l1 0))) (ds := []) #[false, false, false, false, false, false, false, false, false] (by kernel_rfl) rfl rfl ⟨(blk_cell BK246.out 0).trans rfl, (blk_cell BK246.out 1).trans rfl, (blk_cell BK246.out 2).trans rfl, (blk_cell BK246.out 3).trans rfl, (blk_cell BK246.out 4).trans rfl, (blk_cell BK246.out 5).trans rfl, (blk_cell BK246.out 6).trans rfl, ((HB.out.cell (World.block_lt_of_cell? w _ hw250_0)).trans hw250_0)⟩ (fun hHeld => ?_); refine with_tabW pdu_AnswerParse.tab7 pdu_AnswerParse.bits7 (fun HT_ HW_ => ?_)
        generalize w11.drew = w22 at BK246 BK247 BK249 HB hx250_0 hHeld ⊢
        refine pure_ (i := 0) (N := some 22) (v := ?_) (a' := ?_) #[true, false, false, false, false, false, false, false, false] rfl rfl (any_of HT_.out (by kernel_rfl)) (fun _ _ _ h => h) (Or.inl ⟨by rfl, ?_⟩) ?_ ?_
        rotate_left
        ·intro w'
         go_simp
         with_reducible rfl
        rotate_left
        ·simp only [Act.put, List.setIfInBounds_toArray, List.set_cons_zero, List.set_cons_succ, i64_w, i32_w]
         rfl
        refine pure_ (i := 1) (N := some 23) (v := ?_) (a' := ?_) #[true, true, false, false, false, false, false, false, false] rfl rfl (any_of HT_.out (by kernel_rfl)) (fun _ _ _ h => h) (Or.inl ⟨by rfl, ?_⟩) ?_ ?_
        rotate_left
        ·intro w'
         go_simp
         with_reducible rfl
        rotate_left
        ·simp only [Act.put, List.setIfInBounds_toArray, List.set_cons_zero, List.set_cons_succ, i64_w, i32_w]
         rfl
        refine pure_ (i := 4) (N := some 26) (v := ?_) (a' := ?_) #[true, true, false, false, true, false, false, false, false] rfl rfl (any_of HT_.out (by kernel_rfl)) (fun _ _ _ h => h) (Or.inl ⟨by rfl, ?_⟩) ?_ ?_
        rotate_left
        ·intro w'
         go_simp
         with_reducible rfl
        rotate_left
        ·simp only [Act.put, List.setIfInBounds_toArray, List.set_cons_zero, List.set_cons_succ, i64_w, i32_w]
         rfl
        refine take_ (i := 2) (N := some 24) (v := ?_) (a' := ?_) #[true, true, true, false, true, false, false, false, false] rfl rfl (take_ofW HT_.out HW_.out (by kernel_rfl)) (fun _ _ _ h => h) (Or.inl ⟨by rfl, ?_⟩) hHeld ?_ ?_
        rotate_left
        ·rintro w' ⟨s0, s1, s2, s3, s4, s5, s6, s7⟩
         go_simp
         with_reducible rfl
        rotate_left
        ·simp only [Act.put, List.setIfInBounds_toArray, List.set_cons_zero, List.set_cons_succ, i64_w, i32_w]
         rfl
        refine pure_ (i := 3) (N := some 25) (v := ?_) (a' := ?_) #[true, true, true, true, true, false, false, false, false] rfl rfl (any_of HT_.out (by kernel_rfl)) (fun _ _ _ h => h) (Or.inl ⟨by rfl, ?_⟩) ?_ ?_
        rotate_left
        ·intro w'
         go_simp
         with_reducible rfl
        rotate_left
        ·simp only [Act.put, List.setIfInBounds_toArray, List.set_cons_zero, List.set_cons_succ, i64_w, i32_w]
         rfl
        refine take_ (i := 5) (N := some 27) (v := ?_) (a' := ?_) #[true, true, true, true, true, true, false, false, false] rfl rfl (take_ofW HT_.out HW_.out (by kernel_rfl)) (fun _ _ _ h => h) (Or.inl ⟨by rfl, ?_⟩) hHeld ?_ ?_
        rotate_left
        ·rintro w' ⟨s0, s1, s2, s3, s4, s5, s6, s7⟩
         go_simp
         with_reducible rfl
        rotate_left
        ·simp only [Act.put, List.setIfInBounds_toArray, List.set_cons_zero, List.set_cons_succ, i64_w, i32_w]
         rfl
        refine pure_ (i := 6) (N := some 28) (v := ?_) (a' := ?_) #[true, true, true, true, true, true, true, false, false] rfl rfl (any_of HT_.out (by kernel_rfl)) (fun _ _ _ h => h) (Or.inl ⟨by rfl, ?_⟩) ?_ ?_
        rotate_left
        ·intro w'
         go_simp
         with_reducible rfl
        rotate_left
        ·simp only [Act.put, List.setIfInBounds_toArray, List.set_cons_zero, List.set_cons_succ, i64_w, i32_w]
         rfl
        refine pure_ (i := 7) (N := some 29) (v := ?_) (a' := ?_) #[true, true, true, true, true, true, true, true, false] rfl rfl (any_of HT_.out (by kernel_rfl)) (fun _ _ _ h => h) (Or.inl ⟨by rfl, ?_⟩) ?_ ?_
        rotate_left
        ·intro w'
         go_simp
         with_reducible rfl
        rotate_left
        ·simp only [Act.put, List.setIfInBounds_toArray, List.set_cons_zero, List.set_cons_succ, i64_w, i32_w]
         rfl
        refine pure_ (i := 8) (N := some 21) (v := ?_) (a' := ?_) #[true, true, true, true, true, true, true, true, true] rfl rfl (any_of HT_.out (by kernel_rfl)) (fun _ _ _ h => h) (Or.inl ⟨by rfl, ?_⟩) ?_ ?_
        rotate_left
        ·intro w'
         go_simp
         with_reducible rfl
        rotate_left
        ·simp only [Act.put, List.setIfInBounds_toArray, List.set_cons_zero, List.set_cons_succ, i64_w, i32_w]
         rfl
        refine done_ (done_of HT_.out (by kernel_rfl)) ?_
        have p251 : 0 ≤ (1 : Int) := (by omega)
        have q251 : 1 < (l1.length : Int) := of_decide_eq_true (by first | (with_reducible assumption) | assumption)
        obtain ⟨ad251, e251, hx251_0⟩ := Kd.at_int HR1.out 1 p251 q251
        obtain rfl : ad250 = ad251 := (by injection e251)
        (try simp only [show (1 : Int).toNat = 1 from rfl, Nat.reduceMul, Nat.reduceEqDiff, Go.Addr.add, ↓reduceIte] at hx251_0)
        have qi251 : (1 < l1.length) = True := eq_true (by omega)
        (try rw [show ((1 : Int)).toNat = 1 from rfl] at hx251_0)
        replace hx251_0 := (HB.out.cell (World.block_lt_of_cell? w _ hx251_0)).trans hx251_0
        replace p251 := eq_true p251
        replace q251 := eq_true q251
        have hnb23 := NB249_246.out
        have hnc23 := NB246_249.out
        have hnb24 := NB249_247.out
        have hnc24 := NB247_249.out
        refine cz2_ BK249.out ?_; intro hcz25_0 hcz25_1 hfz25_0 hfz25_1
        have hnb26 := NB247_246.out
        have hnc26 := NB246_247.out
        refine cz2_ BK247.out ?_; intro hcz27_0 hcz27_1 hfz27_0 hfz27_1
        try go_wp2
        refine bodyPost_ret (results_ct rfl _ _ gb247 46 #[.slice none 0 0, .int .i64 (wrap64 (rd l1 1))] (0, 0) _ rfl (by (with_reducible repeat (first | refine blk_drewN ?_ _ | refine blk_drew ?_ | refine blk_alloc ?_ _)); refine blk_put (cs := #[.slice none 0 0, .int .i64 0]) ?_ 1 _ rfl; (with_reducible repeat (first | refine blk_drewN ?_ _ | refine blk_drew ?_ | refine blk_alloc ?_ _)); refine blk_put (cs := #[.slice none 0 0, .int .i64 0]) ?_ 0 _ rfl; (with_reducible repeat (first | refine blk_drewN ?_ _ | refine blk_drew ?_ | refine blk_alloc ?_ _)); refine blk_far ?_ NB247_249.out _; (with_reducible repeat (first | refine blk_drewN ?_ _ | refine blk_drew ?_ | refine blk_alloc ?_ _)); exact BK247.out) Try.underlying46 rfl (by kernel_rfl)) rfl ?_
        exact ⟨_, er_, by first | exact Kd.R_nil _ _ _ _ _ | exact Kd.N_nil _ _ _ _ _ | exact Kd.V_nil _ _ _ _ _ | exact Kd.Q_nil _ _ _ _ _ | exact Kd.S_nil _ _ _ _ _, bl3_ HB GE246 GE247 GE249⟩
       ·rw [if_neg c21] at H
        have c21b0 : ((wrap64 (rd l1 1)) == 0) = false := beq_eq_false_iff_ne.mpr c21
        have c21b1 : ((wrap64 (rd l1 1)) != 0) = true := bne_iff_ne.mpr c21
        have H' := Aside0.mk H
        clear H
        try go_wp2
        have n0_ := Aside0.mk (blk_drew BK246.out)
        have n1_ := Aside0.mk (blk_drew BK247.out)
        have n2_ := Aside0.mk (blk_drew BK249.out)
        have n3_ := Aside0.mk (below_drew1 HB.out)
        clear BK246
        clear BK247
        clear BK249
        clear HB
        have BK246 := n0_
        have BK247 := n1_
        have BK249 := n2_
        have HB := n3_
        clear n0_ n1_ n2_ n3_
        have p250 : 0 ≤ (0 : Int) := (by omega)
        have q250 : 0 < (l1.length : Int) := of_decide_eq_true (by first | (with_reducible assumption) | assumption)
        obtain ⟨ad250, e250, hx250_0⟩ := Kd.at_int HR1.out 0 p250 q250
        have hw250_0 := hx250_0
        (try rw [show ((0 : Int)).toNat = 0 from rfl] at hw250_0)
        (try rw [show 0 * 1 = 0 from rfl] at hw250_0)
        (try rw [Addr.add_zero'] at hw250_0)
        cases e250
        have qi250 : (0 < l1.length) = True := eq_true (by omega)
        (try rw [show ((0 : Int)).toNat = 0 from rfl] at hx250_0)
        (try rw [Addr.add_zero'] at hx250_0)
        replace hx250_0 := (HB.out.cell (World.block_lt_of_cell? w _ hx250_0)).trans hx250_0
        replace p250 := eq_true p250
        replace q250 := eq_true q250
        refine start_ (n := 9) (S := fun w' => w'.cell? ⟨gb246, 0, none⟩ = some (.int .i64 a0_0) ∧ w'.cell? ⟨gb246, 1, none⟩ = some (.int .i64 a0_1) ∧ w'.cell? ⟨gb246, 2, none⟩ = some (.int .i64 a0_2) ∧ w'.cell? ⟨gb246, 3, none⟩ = some (.slice A0_3 l0_3.length c0_3) ∧ w'.cell? ⟨gb246, 4, none⟩ = some (.int .i64 a0_4) ∧ w'.cell? ⟨gb246, 5, none⟩ = some (.int .i64 a0_5) ∧ w'.cell? ⟨gb246, 6, none⟩ = some (.int .i64 a0_6) ∧ w'.cell? ad250 = some (.int .u8 (rd l1 0))) (ds := []) #[false, false, false, false, false, false, false, false, false] (by kernel_rfl) rfl rfl ⟨(blk_cell BK246.out 0).trans rfl, (blk_cell BK246.out 1).trans rfl, (blk_cell BK246.out 2).trans rfl, (blk_cell BK246.out 3).trans rfl, (blk_cell BK246.out 4).trans rfl, (blk_cell BK246.out 5).trans rfl, (blk_cell BK246.out 6).trans rfl, ((HB.out.cell (World.block_lt_of_cell? w _ hw250_0)).trans hw250_0)⟩ (fun hHeld => ?_); refine with_tabW pdu_AnswerParse.tab7 pdu_AnswerParse.bits7 (fun HT_ HW_ => ?_)
        generalize w11.drew = w28 at BK246 BK247 BK249 HB hx250_0 hHeld ⊢
        refine pure_ (i := 0) (N := some 22) (v := ?_) (a' := ?_) #[true, false, false, false, false, false, false, false, false] rfl rfl (any_of HT_.out (by kernel_rfl)) (fun _ _ _ h => h) (Or.inl ⟨by rfl, ?_⟩) ?_ ?_
        rotate_left
        ·intro w'
         go_simp
         with_reducible rfl
        rotate_left
        ·simp only [Act.put, List.setIfInBounds_toArray, List.set_cons_zero, List.set_cons_succ, i64_w, i32_w]
         rfl
        refine pure_ (i := 1) (N := some 23) (v := ?_) (a' := ?_) #[true, true, false, false, false, false, false, false, false] rfl rfl (any_of HT_.out (by kernel_rfl)) (fun _ _ _ h => h) (Or.inl ⟨by rfl, ?_⟩) ?_ ?_
        rotate_left
        ·intro w'
         go_simp
         with_reducible rfl
        rotate_left
        ·simp only [Act.put, List.setIfInBounds_toArray, List.set_cons_zero, List.set_cons_succ, i64_w, i32_w]
         rfl
        refine pure_ (i := 4) (N := some 26) (v := ?_) (a' := ?_) #[true, true, false, false, true, false, false, false, false] rfl rfl (any_of HT_.out (by kernel_rfl)) (fun _ _ _ h => h) (Or.inl ⟨by rfl, ?_⟩) ?_ ?_
        rotate_left
        ·intro w'
         go_simp
         with_reducible rfl
        rotate_left
        ·simp only [Act.put, List.setIfInBounds_toArray, List.set_cons_zero, List.set_cons_succ, i64_w, i32_w]
         rfl
        refine take_ (i := 2) (N := some 24) (v := ?_) (a' := ?_) #[true, true, true, false, true, false, false, false, false] rfl rfl (take_ofW HT_.out HW_.out (by kernel_rfl)) (fun _ _ _ h => h) (Or.inl ⟨by rfl, ?_⟩) hHeld ?_ ?_
        rotate_left
        ·rintro w' ⟨s0, s1, s2, s3, s4, s5, s6, s7⟩
         go_simp
         with_reducible rfl
        rotate_left
        ·simp only [Act.put, List.setIfInBounds_toArray, List.set_cons_zero, List.set_cons_succ, i64_w, i32_w]
         rfl
        refine pure_ (i := 3) (N := some 25) (v := ?_) (a' := ?_) #[true, true, true, true, true, false, false, false, false] rfl rfl (any_of HT_.out (by kernel_rfl)) (fun _ _ _ h => h) (Or.inl ⟨by rfl, ?_⟩) ?_ ?_
        rotate_left
        ·intro w'
         go_simp
         with_reducible rfl
        rotate_left
        ·simp only [Act.put, List.setIfInBounds_toArray, List.set_cons_zero, List.set_cons_succ, i64_w, i32_w]
         rfl
        refine take_ (i := 5) (N := some 27) (v := ?_) (a' := ?_) #[true, true, true, true, true, true, false, false, false] rfl rfl (take_ofW HT_.out HW_.out (by kernel_rfl)) (fun _ _ _ h => h) (Or.inl ⟨by rfl, ?_⟩) hHeld ?_ ?_
        rotate_left
        ·rintro w' ⟨s0, s1, s2, s3, s4, s5, s6, s7⟩
         go_simp
         with_reducible rfl
        rotate_left
        ·simp only [Act.put, List.setIfInBounds_toArray, List.set_cons_zero, List.set_cons_succ, i64_w, i32_w]
         rfl
        refine pure_ (i := 6) (N := some 28) (v := ?_) (a' := ?_) #[true, true, true, true, true, true, true, false, false] rfl rfl (any_of HT_.out (by kernel_rfl)) (fun _ _ _ h => h) (Or.inl ⟨by rfl, ?_⟩) ?_ ?_
        rotate_left
        ·intro w'
         go_simp
         with_reducible rfl
        rotate_left
        ·simp only [Act.put, List.setIfInBounds_toArray, List.set_cons_zero, List.set_cons_succ, i64_w, i32_w]
         rfl
        refine pure_ (i := 7) (N := some 29) (v := ?_) (a' := ?_) #[true, true, true, true, true, true, true, true, false] rfl rfl (any_of HT_.out (by kernel_rfl)) (fun _ _ _ h => h) (Or.inl ⟨by rfl, ?_⟩) ?_ ?_
        rotate_left
        ·intro w'
         go_simp
         with_reducible rfl
        rotate_left
        ·simp only [Act.put, List.setIfInBounds_toArray, List.set_cons_zero, List.set_cons_succ, i64_w, i32_w]
         rfl
        refine pure_ (i := 8) (N := some 21) (v := ?_) (a' := ?_) #[true, true, true, true, true, true, true, true, true] rfl rfl (any_of HT_.out (by kernel_rfl)) (fun _ _ _ h => h) (Or.inl ⟨by rfl, ?_⟩) ?_ ?_
        rotate_left
        ·intro w'
         go_simp
         with_reducible rfl
        rotate_left
        ·simp only [Act.put, List.setIfInBounds_toArray, List.set_cons_zero, List.set_cons_succ, i64_w, i32_w]
         rfl
        refine done_ (done_of HT_.out (by kernel_rfl)) ?_
        have p251 : 0 ≤ (1 : Int) := (by omega)
        have q251 : 1 < (l1.length : Int) := of_decide_eq_true (by first | (with_reducible assumption) | assumption)
        obtain ⟨ad251, e251, hx251_0⟩ := Kd.at_int HR1.out 1 p251 q251
        obtain rfl : ad250 = ad251 := (by injection e251)
        (try simp only [show (1 : Int).toNat = 1 from rfl, Nat.reduceMul, Nat.reduceEqDiff, Go.Addr.add, ↓reduceIte] at hx251_0)
        have qi251 : (1 < l1.length) = True := eq_true (by omega)
        (try rw [show ((1 : Int)).toNat = 1 from rfl] at hx251_0)
        replace hx251_0 := (HB.out.cell (World.block_lt_of_cell? w _ hx251_0)).trans hx251_0
        replace p251 := eq_true p251
        replace q251 := eq_true q251
        have hnb29 := NB249_246.out
        have hnc29 := NB246_249.out
        have hnb30 := NB249_247.out
        have hnc30 := NB247_249.out
        refine cz2_ BK249.out ?_; intro hcz31_0 hcz31_1 hfz31_0 hfz31_1
        try go_wp2
        go_meet
        case rel => exact ⟨_, (0), (([] : List Int)), (wrap64 (rd l1 1)), (.slice none 0 0), H', ⟨by first | omega | exact Nat.le_refl _⟩, ⟨by first | exact Kd.R_nil _ _ _ _ _ | exact Kd.N_nil _ _ _ _ _ | exact Kd.V_nil _ _ _ _ _ | exact Kd.Q_nil _ _ _ _ _ | exact Kd.S_nil _ _ _ _ _⟩, ⟨by (with_reducible repeat (first | refine blk_drewN ?_ _ | refine blk_drew ?_ | refine blk_alloc ?_ _)); refine blk_far ?_ NB246_249.out _; (with_reducible repeat (first | refine blk_drewN ?_ _ | refine blk_drew ?_ | refine blk_alloc ?_ _)); exact BK246.out⟩, ⟨by (with_reducible repeat (first | refine blk_drewN ?_ _ | refine blk_drew ?_ | refine blk_alloc ?_ _)); refine blk_far ?_ NB247_249.out _; (with_reducible repeat (first | refine blk_drewN ?_ _ | refine blk_drew ?_ | refine blk_alloc ?_ _)); exact BK247.out⟩, ⟨by (with_reducible repeat (first | refine blk_drewN ?_ _ | refine blk_drew ?_ | refine blk_alloc ?_ _)); refine blk_put (cs := #[.slice none 0 0, .int .i64 0]) ?_ 1 _ rfl; (with_reducible repeat (first | refine blk_drewN ?_ _ | refine blk_drew ?_ | refine blk_alloc ?_ _)); exact BK249.out⟩, ⟨bl3_ HB GE246 GE247 GE249⟩⟩
      ·rw [if_neg c20] at H
       exact absurd H (by simp)
     ·rw [if_neg c19] at H
      have c19b0 : ((wrap64 (rd l1 0)) == (Go.bits .or .i64 a0_0 128)) = false := beq_eq_false_iff_ne.mpr c19
      have c19b1 : ((wrap64 (rd l1 0)) != (Go.bits .or .i64 a0_0 128)) = true := bne_iff_ne.mpr c19
      have HC32 := Aside0.mk H
      clear H
      try go_wp2
      have n0_ := Aside0.mk (blk_drew BK246.out)
      have n1_ := Aside0.mk (blk_drew BK247.out)
      have n2_ := Aside0.mk (blk_drew BK249.out)
      have n3_ := Aside0.mk (below_drew1 HB.out)
      clear BK246
      clear BK247
      clear BK249
      clear HB
      have BK246 := n0_
      have BK247 := n1_
      have BK249 := n2_
      have HB := n3_
      clear n0_ n1_ n2_ n3_
      have p250 : 0 ≤ (0 : Int) := (by omega)
      have q250 : 0 < (l1.length : Int) := of_decide_eq_true (by first | (with_reducible assumption) | assumption)
      obtain ⟨ad250, e250, hx250_0⟩ := Kd.at_int HR1.out 0 p250 q250
      have hw250_0 := hx250_0
      (try rw [show ((0 : Int)).toNat = 0 from rfl] at hw250_0)
      (try rw [show 0 * 1 = 0 from rfl] at hw250_0)
      (try rw [Addr.add_zero'] at hw250_0)
      cases e250
      have qi250 : (0 < l1.length) = True := eq_true (by omega)
      (try rw [show ((0 : Int)).toNat = 0 from rfl] at hx250_0)
      (try rw [Addr.add_zero'] at hx250_0)
      replace hx250_0 := (HB.out.cell (World.block_lt_of_cell? w _ hx250_0)).trans hx250_0
      replace p250 := eq_true p250
      replace q250 := eq_true q250
      refine start_ (n := 9) (S := fun w' => w'.cell? ⟨gb246, 0, none⟩ = some (.int .i64 a0_0) ∧ w'.cell? ⟨gb246, 1, none⟩ = some (.int .i64 a0_1) ∧ w'.cell? ⟨gb246, 2, none⟩ = some (.int .i64 a0_2) ∧ w'.cell? ⟨gb246, 3, none⟩ = some (.slice A0_3 l0_3.length c0_3) ∧ w'.cell? ⟨gb246, 4, none⟩ = some (.int .i64 a0_4) ∧ w'.cell? ⟨gb246, 5, none⟩ = some (.int .i64 a0_5) ∧ w'.cell? ⟨gb246, 6, none⟩ = some (.int .i64 a0_6) ∧ w'.cell? ad250 = some (.int .u8 (rd l1 0))) (ds := []) #[false, false, false, false, false, false, false, false, false] (by kernel_rfl) rfl rfl ⟨(blk_cell BK246.out 0).trans rfl, (blk_cell BK246.out 1).trans rfl, (blk_cell BK246.out 2).trans rfl, (blk_cell BK246.out 3).trans rfl, (blk_cell BK246.out 4).trans rfl, (blk_cell BK246.out 5).trans rfl, (blk_cell BK246.out 6).trans rfl, ((HB.out.cell (World.block_lt_of_cell? w _ hw250_0)).trans hw250_0)⟩ (fun hHeld => ?_); refine with_tabW pdu_AnswerParse.tab7 pdu_AnswerParse.bits7 (fun HT_ HW_ => ?_)
      generalize w11.drew = w33 at BK246 BK247 BK249 HB hx250_0 hHeld ⊢
      refine pure_ (i := 0) (N := some 22) (v := ?_) (a' := ?_) #[true, false, false, false, false, false, false, false, false] rfl rfl (any_of HT_.out (by kernel_rfl)) (fun _ _ _ h => h) (Or.inl ⟨by rfl, ?_⟩) ?_ ?_
      rotate_left
      ·intro w'
       go_simp
       with_reducible rfl
      rotate_left
      ·simp only [Act.put, List.setIfInBounds_toArray, List.set_cons_zero, List.set_cons_succ, i64_w, i32_w]
       rfl
      refine pure_ (i := 1) (N := some 23) (v := ?_) (a' := ?_) #[true, true, false, false, false, false, false, false, false] rfl rfl (any_of HT_.out (by kernel_rfl)) (fun _ _ _ h => h) (Or.inl ⟨by rfl, ?_⟩) ?_ ?_
      rotate_left
      ·intro w'
       go_simp
       with_reducible rfl
      rotate_left
      ·simp only [Act.put, List.setIfInBounds_toArray, List.set_cons_zero, List.set_cons_succ, i64_w, i32_w]
       rfl
      refine pure_ (i := 4) (N := some 26) (v := ?_) (a' := ?_) #[true, true, false, false, true, false, false, false, false] rfl rfl (any_of HT_.out (by kernel_rfl)) (fun _ _ _ h => h) (Or.inl ⟨by rfl, ?_⟩) ?_ ?_
      rotate_left
      ·intro w'
       go_simp
       with_reducible rfl
      rotate_left
      ·simp only [Act.put, List.setIfInBounds_toArray, List.set_cons_zero, List.set_cons_succ, i64_w, i32_w]
       rfl
      refine take_ (i := 2) (N := some 24) (v := ?_) (a' := ?_) #[true, true, true, false, true, false, false, false, false] rfl rfl (take_ofW HT_.out HW_.out (by kernel_rfl)) (fun _ _ _ h => h) (Or.inl ⟨by rfl, ?_⟩) hHeld ?_ ?_
      rotate_left
      ·rintro w' ⟨s0, s1, s2, s3, s4, s5, s6, s7⟩
       go_simp
       with_reducible rfl
      rotate_left
      ·simp only [Act.put, List.setIfInBounds_toArray, List.set_cons_zero, List.set_cons_succ, i64_w, i32_w]
       rfl
      refine pure_ (i := 3) (N := some 25) (v := ?_) (a' := ?_) #[true, true, true, true, true, false, false, false, false] rfl rfl (any_of HT_.out (by kernel_rfl)) (fun _ _ _ h => h) (Or.inl ⟨by rfl, ?_⟩) ?_ ?_
      rotate_left
      ·intro w'
       go_simp
       with_reducible rfl
      rotate_left
      ·simp only [Act.put, List.setIfInBounds_toArray, List.set_cons_zero, List.set_cons_succ, i64_w, i32_w]
       rfl
      refine take_ (i := 5) (N := some 27) (v := ?_) (a' := ?_) #[true, true, true, true, true, true, false, false, false] rfl rfl (take_ofW HT_.out HW_.out (by kernel_rfl)) (fun _ _ _ h => h) (Or.inl ⟨by rfl, ?_⟩) hHeld ?_ ?_
      rotate_left
      ·rintro w' ⟨s0, s1, s2, s3, s4, s5, s6, s7⟩
       go_simp
       with_reducible rfl
      rotate_left
      ·simp only [Act.put, List.setIfInBounds_toArray, List.set_cons_zero, List.set_cons_succ, i64_w, i32_w]
       rfl
      refine pure_ (i := 6) (N := some 28) (v := ?_) (a' := ?_) #[true, true, true, true, true, true, true, false, false] rfl rfl (any_of HT_.out (by kernel_rfl)) (fun _ _ _ h => h) (Or.inl ⟨by rfl, ?_⟩) ?_ ?_
      rotate_left
      ·intro w'
       go_simp
       with_reducible rfl
      rotate_left
      ·simp only [Act.put, List.setIfInBounds_toArray, List.set_cons_zero, List.set_cons_succ, i64_w, i32_w]
       rfl
      refine pure_ (i := 7) (N := some 29) (v := ?_) (a' := ?_) #[true, true, true, true, true, true, true, true, false] rfl rfl (any_of HT_.out (by kernel_rfl)) (fun _ _ _ h => h) (Or.inl ⟨by rfl, ?_⟩) ?_ ?_
      rotate_left
      ·intro w'
       go_simp
       with_reducible rfl
      rotate_left
      ·simp only [Act.put, List.setIfInBounds_toArray, List.set_cons_zero, List.set_cons_succ, i64_w, i32_w]
       rfl
      refine pure_ (i := 8) (N := some 21) (v := ?_) (a' := ?_) #[true, true, true, true, true, true, true, true, true] rfl rfl (any_of HT_.out (by kernel_rfl)) (fun _ _ _ h => h) (Or.inl ⟨by rfl, ?_⟩) ?_ ?_
      rotate_left
      ·intro w'
       go_simp
       with_reducible rfl
      rotate_left
      ·simp only [Act.put, List.setIfInBounds_toArray, List.set_cons_zero, List.set_cons_succ, i64_w, i32_w]
       rfl
      refine done_ (done_of HT_.out (by kernel_rfl)) ?_
      go_upto_region 11 with (fail)
      go_cut [39] (fun v39 wc => ∃ (kq : Nat) (x39_31 : Bool), v39 = .bool x39_31 ∧ Aside0 (pdu_AnswerParse.j0 kq l1 x39_31 a0_0 a0_1 a0_2 l0_3 a0_4 a0_5 a0_6 0 = some (r1, r2, r3)) ∧ Aside0 (kq ≤ k) ∧ Aside0 (wc.heap[gb246]? = some (.cells #[.int .i64 a0_0, .int .i64 a0_1, .int .i64 a0_2, (.slice A0_3 l0_3.length c0_3), .int .i64 a0_4, .int .i64 a0_5, .int .i64 a0_6] 31 (0, 0))) ∧ Aside0 (wc.heap[gb247]? = some (.cells #[(.slice none 0 0), .int .i64 0] 46 (0, 0))) ∧ Aside0 (wc.heap[gb249]? = some (.cells #[(.slice none 0 0), .int .i64 0] 46 (0, 0))) ∧ Aside0 (Below w.heap.size w wc))
      case first =>
       have H := HC32.out
       clear HC32
       by_cases c34 : a0_0 = 1
       ·rw [if_pos c34] at H
        have c34b0 : (a0_0 == 1) = true := beq_iff_eq.mpr c34
        have c34b1 : (a0_0 != 1) = false := bne_eq_false_iff_eq.mpr c34
        clear c34
        (first | rw [c34b0] | (simp only [i64_w, i32_w]; rw [c34b0]) | skip)
        have H' := Aside0.mk H
        clear H
        have hnb35 := NB246_247.out
        have hnc35 := NB247_246.out
        have hnb36 := NB246_249.out
        have hnc36 := NB249_246.out
        refine cz7_ BK246.out ?_; intro hcz37_0 hcz37_1 hcz37_2 hcz37_3 hcz37_4 hcz37_5 hcz37_6 hfz37_0 hfz37_1 hfz37_2 hfz37_3 hfz37_4 hfz37_5 hfz37_6
        go_wp2
        go_meet
        case rel => exact ⟨_, (true), (by first | rfl | (simp; done) | (simp [*]; done)), H', ⟨by first | omega | exact Nat.le_refl _⟩, ⟨bk_ BK246⟩, ⟨bk_ BK247⟩, ⟨bk_ BK249⟩, ⟨bl3_ HB GE246 GE247 GE249⟩⟩
       ·rw [if_neg c34] at H
        have c34b0 : (a0_0 == 1) = false := beq_eq_false_iff_ne.mpr c34
        have c34b1 : (a0_0 != 1) = true := bne_iff_ne.mpr c34
        (first | rw [c34b0] | (simp only [i64_w, i32_w]; rw [c34b0]) | skip)
        have H' := Aside0.mk H
        clear H
        have hnb38 := NB246_247.out
        have hnc38 := NB247_246.out
        have hnb39 := NB246_249.out
        have hnc39 := NB249_246.out
        refine cz7_ BK246.out ?_; intro hcz40_0 hcz40_1 hcz40_2 hcz40_3 hcz40_4 hcz40_5 hcz40_6 hfz40_0 hfz40_1 hfz40_2 hfz40_3 hfz40_4 hfz40_5 hfz40_6
        go_wp2
        go_meet
        case rel => exact ⟨_, ((a0_0 == 2)), (by first | rfl | (simp; done) | (simp [*]; done)), H', ⟨by first | omega | exact Nat.le_refl _⟩, ⟨bk_ BK246⟩, ⟨bk_ BK247⟩, ⟨bk_ BK249⟩, ⟨bl3_ HB GE246 GE247 GE249⟩⟩
      case rest =>
       clear HC32
       try clear c1
       try clear c2
       try clear p2
       try clear q2
       try clear hx2
       try clear qi2
       try clear c3
       try clear c4
       try clear c4b0
       try clear c4b1
       try clear p6
       try clear c8
       try clear c12
       try clear c12b0
       try clear c12b1
       try clear c13
       try clear c14
       try clear c16
       try clear c18
       try clear c18b0
       try clear c18b1
       try clear c19
       try clear c19b0
       try clear c19b1
       try clear c20
       try clear c20b0
       try clear c20b1
       try clear c21
       try clear c21b0
       try clear c21b1
       try clear c23
       try clear c24
       try clear p25
       try clear q25
       try clear hx25
       try clear qi25
       try clear c26
       try clear c29
       try clear c30
       try clear c34
       try clear c34b0
       try clear c34b1
       try clear c35
       try clear c36
       try clear c38
       try clear c39
       try clear hcz15_0 hcz15_1
       try clear hcz17_0 hcz17_1
       try clear hcz25_0 hcz25_1
       try clear hcz27_0 hcz27_1
       try clear hcz31_0 hcz31_1
       try clear hcz37_0 hcz37_1 hcz37_2 hcz37_3 hcz37_4 hcz37_5 hcz37_6
       try clear hcz40_0 hcz40_1 hcz40_2 hcz40_3 hcz40_4 hcz40_5 hcz40_6
       try clear hcz9_0 hcz9_1 hcz9_2 hcz9_3 hcz9_4 hcz9_5 hcz9_6
       try clear hfz15_0 hfz15_1
       try clear hfz17_0 hfz17_1
       try clear hfz25_0 hfz25_1
       try clear hfz27_0 hfz27_1
       try clear hfz31_0 hfz31_1
       try clear hfz37_0 hfz37_1 hfz37_2 hfz37_3 hfz37_4 hfz37_5 hfz37_6
       try clear hfz40_0 hfz40_1 hfz40_2 hfz40_3 hfz40_4 hfz40_5 hfz40_6
       try clear hfz9_0 hfz9_1 hfz9_2 hfz9_3 hfz9_4 hfz9_5 hfz9_6
       try clear hx250_0
       try clear hx251_0
       try clear p250
       try clear p251
       try clear q250
       try clear q251
       obtain ⟨kq, x39_31, rfl, HA, HJ31, BK246, BK247, BK249, HB⟩ := hcut
       cases kq with
       | zero => exact absurd HA.out (by simp [pdu_AnswerParse.j0])
       | succ kj31 =>
        have H := HA.out
        clear HA
        simp only [pdu_AnswerParse.j0] at H
        by_cases c41 : x39_31 = true
        ·subst c41
         have H1 : (if 2 ≤ (l1.length : Int) then ((wire_Unpack.f kj31 (l1.drop 2) a0_2).bind fun bt253 => (pdu_AnswerParse.j1 kj31 l1 a0_0 a0_1 a0_2 l0_3 a0_4 a0_5 a0_6 bt253.1 0)) else (none)) = some (r1, r2, r3) := by rw [if_pos rfl] at H; exact H
         clear H
         have H := H1
         clear H1
         by_cases c42 : 2 ≤ (l1.length : Int)
         ·rw [if_pos c42] at H
          have c42b0 := eq_true c42
          have c42b1 : decide (2 ≤ (l1.length : Int)) = true := decide_eq_true c42
          clear c42
          replace H := Option.bind_eq_some_iff.mp H
          obtain ⟨⟨t253, t254⟩, A430, H⟩ := H
          replace H : (pdu_AnswerParse.j1 kj31 l1 a0_0 a0_1 a0_2 l0_3 a0_4 a0_5 a0_6 t253 0) = some (r1, r2, r3) := H
          have A43 := Aside0.mk A430
          clear A430
          have H' := Aside0.mk H
          clear H
          try go_wp2
          have n0_ := Aside0.mk (blk_drew BK246.out)
          have n1_ := Aside0.mk (blk_drew BK247.out)
          have n2_ := Aside0.mk (blk_drew BK249.out)
          have n3_ := Aside0.mk (below_drew1 HB.out)
          clear BK246
          clear BK247
          clear BK249
          clear HB
          have BK246 := n0_
          have BK247 := n1_
          have BK249 := n2_
          have HB := n3_
          clear n0_ n1_ n2_ n3_
          obtain ⟨i045, hi045, _, hsz45, _⟩ := info_parts info5
          obtain ⟨A45, hcut45, hA45, hC45⟩ := print_drop_of (P := Try.prog) (Value.int .u8) 0 43 5 .i64 Try.underlying43 hi045 hsz45 (some ad250) c1 l1 2 (by omega) (of_decide_eq_true (by first | (with_reducible assumption) | assumption)) HC1.out
          have HR252 := Aside0.mk (Kd.C_of_reads (h1 := fun _ => rfl) (hA45 _ (Kd.reads_of_C HR1.out)))
          have HC252 := Aside0.mk hC45
          clear hA45 hC45 hi045 hsz45
          refine start_ (n := 10) (S := fun w' => w'.cell? ⟨gb246, 0, none⟩ = some (.int .i64 a0_0) ∧ w'.cell? ⟨gb246, 1, none⟩ = some (.int .i64 a0_1) ∧ w'.cell? ⟨gb246, 2, none⟩ = some (.int .i64 a0_2) ∧ w'.cell? ⟨gb246, 3, none⟩ = some (.slice A0_3 l0_3.length c0_3) ∧ w'.cell? ⟨gb246, 4, none⟩ = some (.int .i64 a0_4) ∧ w'.cell? ⟨gb246, 5, none⟩ = some (.int .i64 a0_5) ∧ w'.cell? ⟨gb246, 6, none⟩ = some (.int .i64 a0_6)) (ds := []) #[false, false, false, false, false, false, false, false, false, false] (by kernel_rfl) rfl rfl ⟨(blk_cell BK246.out 0).trans rfl, (blk_cell BK246.out 1).trans rfl, (blk_cell BK246.out 2).trans rfl, (blk_cell BK246.out 3).trans rfl, (blk_cell BK246.out 4).trans rfl, (blk_cell BK246.out 5).trans rfl, (blk_cell BK246.out 6).trans rfl⟩ (fun hHeld => ?_); refine with_tabW pdu_AnswerParse.tab12 pdu_AnswerParse.bits12 (fun HT_ HW_ => ?_)
          generalize wc.drew = w44 at BK246 BK247 BK249 HB HR252 hHeld ⊢
          refine pure_ (i := 0) (N := some 49) (v := ?_) (a' := ?_) #[true, false, false, false, false, false, false, false, false, false] rfl rfl (any_of HT_.out (by kernel_rfl)) (fun _ _ _ h => h) (Or.inl ⟨by rfl, ?_⟩) ?_ ?_
          rotate_left
          ·intro w'
           go_simp
           with_reducible rfl
          rotate_left
          ·simp only [Act.put, List.setIfInBounds_toArray, List.set_cons_zero, List.set_cons_succ, i64_w, i32_w]
           rfl
          refine pure_ (i := 1) (N := some 50) (v := ?_) (a' := ?_) #[true, true, false, false, false, false, false, false, false, false] rfl rfl (any_of HT_.out (by kernel_rfl)) (fun _ _ _ h => h) (Or.inl ⟨by rfl, ?_⟩) ?_ ?_
          rotate_left
          ·intro w'
           go_simp
           with_reducible rfl
          rotate_left
          ·simp only [Act.put, List.setIfInBounds_toArray, List.set_cons_zero, List.set_cons_succ, i64_w, i32_w]
           rfl
          refine pure_ (i := 2) (N := some 51) (v := ?_) (a' := ?_) #[true, true, true, false, false, false, false, false, false, false] rfl rfl (any_of HT_.out (by kernel_rfl)) (fun _ _ _ h => h) (Or.inl ⟨by rfl, ?_⟩) ?_ ?_
          rotate_left
          ·intro w'
           go_simp
           with_reducible rfl
          rotate_left
          ·simp only [Act.put, List.setIfInBounds_toArray, List.set_cons_zero, List.set_cons_succ, i64_w, i32_w]
           rfl
          refine take_ (i := 3) (N := some 52) (v := ?_) (a' := ?_) #[true, true, true, true, false, false, false, false, false, false] rfl rfl (take_ofW HT_.out HW_.out (by kernel_rfl)) (fun _ _ _ h => h) (Or.inl ⟨by rfl, ?_⟩) hHeld ?_ ?_
          rotate_left
          ·rintro w' ⟨s0, s1, s2, s3, s4, s5, s6⟩
           go_simp
           with_reducible rfl
          rotate_left
          ·simp only [Act.put, List.setIfInBounds_toArray, List.set_cons_zero, List.set_cons_succ, i64_w, i32_w]
           rfl
          refine one_ (i := 4) (N := some 53) #[true, true, true, true, true, false, false, false, false, false] rfl rfl (one_of HT_.out (by kernel_rfl)) (by decide) (fun K hK => ?_)
          refine goes_ Try.func48 (by kernel_rfl) rfl #[.slice A45 (l1.drop 2).length (c1 - 2), .int .i64 a0_2] (by rfl) rfl rfl (by (try simp only [List.map_toArray, List.map_cons, List.map_nil]); first | done | (rw [show (l1.drop 2).length = (l1.length - 2) from List.length_drop] <;> rfl) | rfl | (simp only [List.length_drop, List.length_take]; rfl)) ?_
          with_reducible refine (wire_Unpack.calls kj31 _ _ (l1.drop 2) a0_2 t253 t254 _ ?side1 ?side2 A43.out).mono ?_
          (case side1 => exact sc_ (Kd.C_below HR252.out HB.out))
          (case side2 => exact HC252.out)
          rintro e w46 ⟨v255, rfl, ho0, hb⟩
          refine ⟨_, rfl, ?_⟩
          have n0_ := Aside0.mk (Kd.R_lower ho0 (below_size (bl3_ HB GE246 GE247 GE249)))
          have n1_ := Aside0.mk (blk_below (g := gb246) (bk_ BK246) hb)
          have n2_ := Aside0.mk (blk_below (g := gb247) (bk_ BK247) hb)
          have n3_ := Aside0.mk (blk_below (g := gb249) (bk_ BK249) hb)
          have n4_ := Aside0.mk (below_step (bl3_ HB GE246 GE247 GE249) hb)
          clear BK246
          clear BK247
          clear BK249
          clear HB
          have HO256 := n0_
          have BK246 := n1_
          have BK247 := n2_
          have BK249 := n3_
          have HB := n4_
          clear n0_ n1_ n2_ n3_ n4_
          (try clear hb)
          (try clear hb2)
          (try clear hk)
          (try clear hi)
          (try clear ho0)
          obtain ⟨Ao47, co47, eo47⟩ := Kd.R_slice HO256.out
          (first | subst eo47 | (injection eo47 with f1_ f2_ f3_; have f4_ := f1_.symm; have f5_ := f3_.symm; clear f1_ f2_ f3_; subst f4_; subst f5_))
          refine hK.out _ _ ⟨(blk_cell BK246.out 0).trans rfl, (blk_cell BK246.out 1).trans rfl, (blk_cell BK246.out 2).trans rfl, (blk_cell BK246.out 3).trans rfl, (blk_cell BK246.out 4).trans rfl, (blk_cell BK246.out 5).trans rfl, (blk_cell BK246.out 6).trans rfl⟩ (fun hHeld => ?_)
          clear hK K
          refine norm_ (a' := ?_) ?_ ?_
          rotate_left
          ·show Act.put _ (some 53) _ = _
           simp only [Act.put, List.setIfInBounds_toArray, List.set_cons_zero, List.set_cons_succ, i64_w, i32_w]
           rfl
          refine pure_ (i := 5) (N := some 48) (v := ?_) (a' := ?_) #[true, true, true, true, true, true, false, false, false, false] rfl rfl (any_of HT_.out (by kernel_rfl)) (fun _ _ _ h => h) (Or.inl ⟨by rfl, ?_⟩) ?_ ?_
          rotate_left
          ·intro w'
           go_simp
           with_reducible rfl
          rotate_left
          ·simp only [Act.put, List.setIfInBounds_toArray, List.set_cons_zero, List.set_cons_succ, i64_w, i32_w]
           rfl
          refine pure_ (i := 6) (N := some 54) (v := ?_) (a' := ?_) #[true, true, true, true, true, true, true, false, false, false] rfl rfl (any_of HT_.out (by kernel_rfl)) (fun _ _ _ h => h) (Or.inl ⟨by rfl, ?_⟩) ?_ ?_
          rotate_left
          ·intro w'
           go_simp
           with_reducible rfl
          rotate_left
          ·simp only [Act.put, List.setIfInBounds_toArray, List.set_cons_zero, List.set_cons_succ, i64_w, i32_w]
           rfl
          refine pure_ (i := 7) (N := some 55) (v := ?_) (a' := ?_) #[true, true, true, true, true, true, true, true, false, false] rfl rfl (any_of HT_.out (by kernel_rfl)) (fun _ _ _ h => h) (Or.inl ⟨by rfl, ?_⟩) ?_ ?_
          rotate_left
          ·intro w'
           go_simp
           with_reducible rfl
          rotate_left
          ·simp only [Act.put, List.setIfInBounds_toArray, List.set_cons_zero, List.set_cons_succ, i64_w, i32_w]
           rfl
          refine pure_ (i := 8) (N := some 56) (v := ?_) (a' := ?_) #[true, true, true, true, true, true, true, true, true, false] rfl rfl (any_of HT_.out (by kernel_rfl)) (fun _ _ _ h => h) (Or.inl ⟨by rfl, ?_⟩) ?_ ?_
          rotate_left
          ·intro w'
           go_simp
           with_reducible rfl
          rotate_left
          ·simp only [Act.put, List.setIfInBounds_toArray, List.set_cons_zero, List.set_cons_succ, i64_w, i32_w]
           rfl
          refine one_ (i := 9) (N := none) #[true, true, true, true, true, true, true, true, true, true] rfl rfl (one_of HT_.out (by kernel_rfl)) (by decide) (fun K hK => ?_)
          have hs48 : w46.cell? ⟨gb249, 0, none⟩ = some (.slice none 0 0) := (blk_cell BK249.out 0).trans rfl
          have hfs48 := blk_frozen BK249.out 0
          have hns48_0 := NB246_249.out
          have hns48_1 := NB247_249.out
          have hms48_0 := NB249_246.out
          have hms48_1 := NB249_247.out
          refine skip_ (w1 := ?_) (by rfl) rfl ?_ ?_
          rotate_left
          ·go_simp
           rfl
          refine hK.out _ _ ⟨((cell_far (p := ⟨gb249, _, none⟩) NB246_249.out _).trans (hHeld.1)), ((cell_far (p := ⟨gb249, _, none⟩) NB246_249.out _).trans (hHeld.2.1)), ((cell_far (p := ⟨gb249, _, none⟩) NB246_249.out _).trans (hHeld.2.2.1)), ((cell_far (p := ⟨gb249, _, none⟩) NB246_249.out _).trans (hHeld.2.2.2.1)), ((cell_far (p := ⟨gb249, _, none⟩) NB246_249.out _).trans (hHeld.2.2.2.2.1)), ((cell_far (p := ⟨gb249, _, none⟩) NB246_249.out _).trans (hHeld.2.2.2.2.2.1)), ((cell_far (p := ⟨gb249, _, none⟩) NB246_249.out _).trans (hHeld.2.2.2.2.2.2))⟩ (fun hHeld => ?_)
          clear hK K
          refine done_ (done_of HT_.out (by kernel_rfl)) ?_
          try go_wp2
          go_meet
          case rel => exact ⟨_, (0), (t253), (0), (.slice Ao47 t253.length co47), H', ⟨by have := HJ31.out; first | omega | exact Nat.le_refl _⟩, ⟨by (with_reducible repeat (first | apply Kd.R_alloc | apply Kd.R_drewN | apply Kd.R_drew)); exact Kd.R_mono (Kd.R_far (p := ⟨gb249, 0, none⟩) (Kd.R_types HO256.out BK249.out (by decide)) (fun _ hk => hk.2) (.slice Ao47 t253.length co47)) (fun _ hk => trivial)⟩, ⟨by (with_reducible repeat (first | refine blk_drewN ?_ _ | refine blk_drew ?_ | refine blk_alloc ?_ _)); refine blk_far ?_ NB246_249.out _; (with_reducible repeat (first | refine blk_drewN ?_ _ | refine blk_drew ?_ | refine blk_alloc ?_ _)); exact BK246.out⟩, ⟨by (with_reducible repeat (first | refine blk_drewN ?_ _ | refine blk_drew ?_ | refine blk_alloc ?_ _)); refine blk_far ?_ NB247_249.out _; (with_reducible repeat (first | refine blk_drewN ?_ _ | refine blk_drew ?_ | refine blk_alloc ?_ _)); exact BK247.out⟩, ⟨by (with_reducible repeat (first | refine blk_drewN ?_ _ | refine blk_drew ?_ | refine blk_alloc ?_ _)); refine blk_put (cs := #[.slice none 0 0, .int .i64 0]) ?_ 0 _ rfl; (with_reducible repeat (first | refine blk_drewN ?_ _ | refine blk_drew ?_ | refine blk_alloc ?_ _)); exact BK249.out⟩, ⟨bl3_ HB GE246 GE247 GE249⟩⟩
         ·rw [if_neg c42] at H
          exact absurd H (by simp)
        ·replace c41 := Bool.eq_false_iff.mpr c41
         subst c41
         have H1 : (if a0_0 = 3 then (if 2 ≤ (l1.length : Int) then ((pdu_words.f kj31 (l1.drop 2)).bind fun t258 => (pdu_AnswerParse.j1 kj31 l1 a0_0 a0_1 a0_2 l0_3 a0_4 a0_5 a0_6 t258 0)) else (none)) else (if a0_0 = 4 then (if 2 ≤ (l1.length : Int) then ((pdu_words.f kj31 (l1.drop 2)).bind fun t262 => (pdu_AnswerParse.j1 kj31 l1 a0_0 a0_1 a0_2 l0_3 a0_4 a0_5 a0_6 t262 0)) else (none)) else (if a0_0 = 23 then (if 2 ≤ (l1.length : Int) then ((pdu_words.f kj31 (l1.drop 2)).bind fun t266 => (pdu_AnswerParse.j1 kj31 l1 a0_0 a0_1 a0_2 l0_3 a0_4 a0_5 a0_6 t266 0)) else (none)) else (pdu_AnswerParse.j1 kj31 l1 a0_0 a0_1 a0_2 l0_3 a0_4 a0_5 a0_6 ([] : List Int) 0)))) = some (r1, r2, r3) := by rw [if_neg (show ¬ (false = true) by decide)] at H; exact H
         clear H
         have H := H1
         clear H1
         by_cases c49 : a0_0 = 3
         ·rw [if_pos c49] at H
          have c49b0 : (a0_0 == 3) = true := beq_iff_eq.mpr c49
          have c49b1 : (a0_0 != 3) = false := bne_eq_false_iff_eq.mpr c49
          clear c49
          by_cases c50 : 2 ≤ (l1.length : Int)
          ·rw [if_pos c50] at H
           have c50b0 := eq_true c50
           have c50b1 : decide (2 ≤ (l1.length : Int)) = true := decide_eq_true c50
           clear c50
           replace H := Option.bind_eq_some_iff.mp H
           obtain ⟨t258, A510, H⟩ := H
           replace H : (pdu_AnswerParse.j1 kj31 l1 a0_0 a0_1 a0_2 l0_3 a0_4 a0_5 a0_6 t258 0) = some (r1, r2, r3) := H
           have A51 := Aside0.mk A510
           clear A510
           have H' := Aside0.mk H
           clear H
           have hnb52 := NB246_247.out
           have hnc52 := NB247_246.out
           have hnb53 := NB246_249.out
           have hnc53 := NB249_246.out
           refine cz7_ BK246.out ?_; intro hcz54_0 hcz54_1 hcz54_2 hcz54_3 hcz54_4 hcz54_5 hcz54_6 hfz54_0 hfz54_1 hfz54_2 hfz54_3 hfz54_4 hfz54_5 hfz54_6
           obtain ⟨i055, hi055, _, hsz55, _⟩ := info_parts info5
           obtain ⟨A55, hcut55, hA55, hC55⟩ := print_drop_of (P := Try.prog) (Value.int .u8) 0 43 5 .i64 Try.underlying43 hi055 hsz55 (some ad250) c1 l1 2 (by omega) (of_decide_eq_true (by first | (with_reducible assumption) | assumption)) HC1.out
           have HR257 := Aside0.mk (Kd.C_of_reads (h1 := fun _ => rfl) (hA55 _ (Kd.reads_of_C HR1.out)))
           have HC257 := Aside0.mk hC55
           clear hA55 hC55 hi055 hsz55
           go_wp2_with (first | ((with_reducible refine gate_callee (f := 49) rfl ?_); refine goesL_ (some 73) rfl rfl Try.func49 (by kernel_rfl) rfl #[.slice A55 (l1.drop 2).length (c1 - 2)] rfl (by (try simp only [List.map_toArray, List.map_cons, List.map_nil]); first | done | (rw [show (l1.drop 2).length = (l1.length - 2) from List.length_drop] <;> rfl) | rfl | (simp only [List.length_drop, List.length_take]; rfl)) ?_; (with_reducible refine (pdu_words.calls kj31 _ _ (l1.drop 2) t258 _ ?side1 ?side2 A51.out).mono ?_); (case side1 => exact sc_ (Kd.C_below HR257.out HB.out)); (case side2 => exact HC257.out); rintro e w56 ⟨v259, rfl, ho0, hb⟩; refine ⟨_, rfl, ?_⟩; have n0_ := Aside0.mk (Kd.R_lower ho0 (below_size (bl3_ HB GE246 GE247 GE249))); have n1_ := Aside0.mk (blk_below (g := gb246) (bk_ BK246) hb); have n2_ := Aside0.mk (blk_below (g := gb247) (bk_ BK247) hb); have n3_ := Aside0.mk (blk_below (g := gb249) (bk_ BK249) hb); have n4_ := Aside0.mk (below_step (bl3_ HB GE246 GE247 GE249) hb); clear BK246; clear BK247; clear BK249; clear HB; have HO260 := n0_; have BK246 := n1_; have BK247 := n2_; have BK249 := n3_; have HB := n4_; clear n0_ n1_ n2_ n3_ n4_; (try clear hb); (try clear hb2); (try clear hk); (try clear hi); (try clear ho0); obtain ⟨Ao57, co57, eo57⟩ := Kd.R_slice HO260.out; subst eo57; have hnb58 := NB249_247.out; have hnc58 := NB247_249.out; refine cz2_ BK249.out ?_; intro hcz59_0 hcz59_1 hfz59_0 hfz59_1))
           go_meet
           case rel => exact ⟨_, (0), (t258), (0), (.slice Ao57 t258.length co57), H', ⟨by have := HJ31.out; first | omega | exact Nat.le_refl _⟩, ⟨by (with_reducible repeat (first | apply Kd.R_alloc | apply Kd.R_drewN | apply Kd.R_drew)); exact Kd.R_mono (Kd.R_far (p := ⟨gb249, 0, none⟩) (Kd.R_types HO260.out BK249.out (by decide)) (fun _ hk => hk.2) (.slice Ao57 t258.length co57)) (fun _ hk => trivial)⟩, ⟨by (with_reducible repeat (first | refine blk_drewN ?_ _ | refine blk_drew ?_ | refine blk_alloc ?_ _)); refine blk_far ?_ NB246_249.out _; (with_reducible repeat (first | refine blk_drewN ?_ _ | refine blk_drew ?_ | refine blk_alloc ?_ _)); exact BK246.out⟩, ⟨by (with_reducible repeat (first | refine blk_drewN ?_ _ | refine blk_drew ?_ | refine blk_alloc ?_ _)); refine blk_far ?_ NB247_249.out _; (with_reducible repeat (first | refine blk_drewN ?_ _ | refine blk_drew ?_ | refine blk_alloc ?_ _)); exact BK247.out⟩, ⟨by (with_reducible repeat (first | refine blk_drewN ?_ _ | refine blk_drew ?_ | refine blk_alloc ?_ _)); refine blk_put (cs := #[.slice none 0 0, .int .i64 0]) ?_ 0 _ rfl; (with_reducible repeat (first | refine blk_drewN ?_ _ | refine blk_drew ?_ | refine blk_alloc ?_ _)); exact BK249.out⟩, ⟨bl3_ HB GE246 GE247 GE249⟩⟩
          ·rw [if_neg c50] at H
           exact absurd H (by simp)
         ·rw [if_neg c49] at H
          have c49b0 : (a0_0 == 3) = false := beq_eq_false_iff_ne.mpr c49
          have c49b1 : (a0_0 != 3) = true := bne_iff_ne.mpr c49
          by_cases c60 : a0_0 = 4
          ·rw [if_pos c60] at H
           have c60b0 : (a0_0 == 4) = true := beq_iff_eq.mpr c60
           have c60b1 : (a0_0 != 4) = false := bne_eq_false_iff_eq.mpr c60
           clear c60
           by_cases c61 : 2 ≤ (l1.length : Int)
           ·rw [if_pos c61] at H
            have c61b0 := eq_true c61
            have c61b1 : decide (2 ≤ (l1.length : Int)) = true := decide_eq_true c61
            clear c61
            replace H := Option.bind_eq_some_iff.mp H
            obtain ⟨t262, A620, H⟩ := H
            replace H : (pdu_AnswerParse.j1 kj31 l1 a0_0 a0_1 a0_2 l0_3 a0_4 a0_5 a0_6 t262 0) = some (r1, r2, r3) := H
            have A62 := Aside0.mk A620
            clear A620
            have H' := Aside0.mk H
            clear H
            have hnb63 := NB246_247.out
            have hnc63 := NB247_246.out
            have hnb64 := NB246_249.out
            have hnc64 := NB249_246.out
            refine cz7_ BK246.out ?_; intro hcz65_0 hcz65_1 hcz65_2 hcz65_3 hcz65_4 hcz65_5 hcz65_6 hfz65_0 hfz65_1 hfz65_2 hfz65_3 hfz65_4 hfz65_5 hfz65_6
            obtain ⟨i066, hi066, _, hsz66, _⟩ := info_parts info5
            obtain ⟨A66, hcut66, hA66, hC66⟩ := print_drop_of (P := Try.prog) (Value.int .u8) 0 43 5 .i64 Try.underlying43 hi066 hsz66 (some ad250) c1 l1 2 (by omega) (of_decide_eq_true (by first | (with_reducible assumption) | assumption)) HC1.out
            have HR261 := Aside0.mk (Kd.C_of_reads (h1 := fun _ => rfl) (hA66 _ (Kd.reads_of_C HR1.out)))
            have HC261 := Aside0.mk hC66
            clear hA66 hC66 hi066 hsz66
            go_wp2_with (first | ((with_reducible refine gate_callee (f := 49) rfl ?_); refine goesL_ (some 73) rfl rfl Try.func49 (by kernel_rfl) rfl #[.slice A66 (l1.drop 2).length (c1 - 2)] rfl (by (try simp only [List.map_toArray, List.map_cons, List.map_nil]); first | done | (rw [show (l1.drop 2).length = (l1.length - 2) from List.length_drop] <;> rfl) | rfl | (simp only [List.length_drop, List.length_take]; rfl)) ?_; (with_reducible refine (pdu_words.calls kj31 _ _ (l1.drop 2) t262 _ ?side1 ?side2 A62.out).mono ?_); (case side1 => exact sc_ (Kd.C_below HR261.out HB.out)); (case side2 => exact HC261.out); rintro e w67 ⟨v263, rfl, ho0, hb⟩; refine ⟨_, rfl, ?_⟩; have n0_ := Aside0.mk (Kd.R_lower ho0 (below_size (bl3_ HB GE246 GE247 GE249))); have n1_ := Aside0.mk (blk_below (g := gb246) (bk_ BK246) hb); have n2_ := Aside0.mk (blk_below (g := gb247) (bk_ BK247) hb); have n3_ := Aside0.mk (blk_below (g := gb249) (bk_ BK249) hb); have n4_ := Aside0.mk (below_step (bl3_ HB GE246 GE247 GE249) hb); clear BK246; clear BK247; clear BK249; clear HB; have HO264 := n0_; have BK246 := n1_; have BK247 := n2_; have BK249 := n3_; have HB := n4_; clear n0_ n1_ n2_ n3_ n4_; (try clear hb); (try clear hb2); (try clear hk); (try clear hi); (try clear ho0); obtain ⟨Ao68, co68, eo68⟩ := Kd.R_slice HO264.out; subst eo68; have hnb69 := NB249_247.out; have hnc69 := NB247_249.out; refine cz2_ BK249.out ?_; intro hcz70_0 hcz70_1 hfz70_0 hfz70_1))
            go_meet
            case rel => exact ⟨_, (0), (t262), (0), (.slice Ao68 t262.length co68), H', ⟨by have := HJ31.out; first | omega | exact Nat.le_refl _⟩, ⟨by (with_reducible repeat (first | apply Kd.R_alloc | apply Kd.R_drewN | apply Kd.R_drew)); exact Kd.R_mono (Kd.R_far (p := ⟨gb249, 0, none⟩) (Kd.R_types HO264.out BK249.out (by decide)) (fun _ hk => hk.2) (.slice Ao68 t262.length co68)) (fun _ hk => trivial)⟩, ⟨by (with_reducible repeat (first | refine blk_drewN ?_ _ | refine blk_drew ?_ | refine blk_alloc ?_ _)); refine blk_far ?_ NB246_249.out _; (with_reducible repeat (first | refine blk_drewN ?_ _ | refine blk_drew ?_ | refine blk_alloc ?_ _)); exact BK246.out⟩, ⟨by (with_reducible repeat (first | refine blk_drewN ?_ _ | refine blk_drew ?_ | refine blk_alloc ?_ _)); refine blk_far ?_ NB247_249.out _; (with_reducible repeat (first | refine blk_drewN ?_ _ | refine blk_drew ?_ | refine blk_alloc ?_ _)); exact BK247.out⟩, ⟨by (with_reducible repeat (first | refine blk_drewN ?_ _ | refine blk_drew ?_ | refine blk_alloc ?_ _)); refine blk_put (cs := #[.slice none 0 0, .int .i64 0]) ?_ 0 _ rfl; (with_reducible repeat (first | refine blk_drewN ?_ _ | refine blk_drew ?_ | refine blk_alloc ?_ _)); exact BK249.out⟩, ⟨bl3_ HB GE246 GE247 GE249⟩⟩
           ·rw [if_neg c61] at H
            exact absurd H (by simp)
          ·rw [if_neg c60] at H
           have c60b0 : (a0_0 == 4) = false := beq_eq_false_iff_ne.mpr c60
           have c60b1 : (a0_0 != 4) = true := bne_iff_ne.mpr c60
           by_cases c71 : a0_0 = 23
           ·rw [if_pos c71] at H
            have c71b0 : (a0_0 == 23) = true := beq_iff_eq.mpr c71
            have c71b1 : (a0_0 != 23) = false := bne_eq_false_iff_eq.mpr c71
            clear c71
            by_cases c72 : 2 ≤ (l1.length : Int)
            ·rw [if_pos c72] at H
             have c72b0 := eq_true c72
             have c72b1 : decide (2 ≤ (l1.length : Int)) = true := decide_eq_true c72
             clear c72
             replace H := Option.bind_eq_some_iff.mp H
             obtain ⟨t266, A730, H⟩ := H
             replace H : (pdu_AnswerParse.j1 kj31 l1 a0_0 a0_1 a0_2 l0_3 a0_4 a0_5 a0_6 t266 0) = some (r1, r2, r3) := H
             have A73 := Aside0.mk A730
             clear A730
             have H' := Aside0.mk H
             clear H
             have hnb74 := NB246_247.out
             have hnc74 := NB247_246.out
             have hnb75 := NB246_249.out
             have hnc75 := NB249_246.out
             refine cz7_ BK246.out ?_; intro hcz76_0 hcz76_1 hcz76_2 hcz76_3 hcz76_4 hcz76_5 hcz76_6 hfz76_0 hfz76_1 hfz76_2 hfz76_3 hfz76_4 hfz76_5 hfz76_6
             obtain ⟨i077, hi077, _, hsz77, _⟩ := info_parts info5
             obtain ⟨A77, hcut77, hA77, hC77⟩ := print_drop_of (P := Try.prog) (Value.int .u8) 0 43 5 .i64 Try.underlying43 hi077 hsz77 (some ad250) c1 l1 2 (by omega) (of_decide_eq_true (by first | (with_reducible assumption) | assumption)) HC1.out
             have HR265 := Aside0.mk (Kd.C_of_reads (h1 := fun _ => rfl) (hA77 _ (Kd.reads_of_C HR1.out)))
             have HC265 := Aside0.mk hC77
             clear hA77 hC77 hi077 hsz77
             go_wp2_with (first | ((with_reducible refine gate_callee (f := 49) rfl ?_); refine goesL_ (some 73) rfl rfl Try.func49 (by kernel_rfl) rfl #[.slice A77 (l1.drop 2).length (c1 - 2)] rfl (by (try simp only [List.map_toArray, List.map_cons, List.map_nil]); first | done | (rw [show (l1.drop 2).length = (l1.length - 2) from List.length_drop] <;> rfl) | rfl | (simp only [List.length_drop, List.length_take]; rfl)) ?_; (with_reducible refine (pdu_words.calls kj31 _ _ (l1.drop 2) t266 _ ?side1 ?side2 A73.out).mono ?_); (case side1 => exact sc_ (Kd.C_below HR265.out HB.out)); (case side2 => exact HC265.out); rintro e w78 ⟨v267, rfl, ho0, hb⟩; refine ⟨_, rfl, ?_⟩; have n0_ := Aside0.mk (Kd.R_lower ho0 (below_size (bl3_ HB GE246 GE247 GE249))); have n1_ := Aside0.mk (blk_below (g := gb246) (bk_ BK246) hb); have n2_ := Aside0.mk (blk_below (g := gb247) (bk_ BK247) hb); have n3_ := Aside0.mk (blk_below (g := gb249) (bk_ BK249) hb); have n4_ := Aside0.mk (below_step (bl3_ HB GE246 GE247 GE249) hb); clear BK246; clear BK247; clear BK249; clear HB; have HO268 := n0_; have BK246 := n1_; have BK247 := n2_; have BK249 := n3_; have HB := n4_; clear n0_ n1_ n2_ n3_ n4_; (try clear hb); (try clear hb2); (try clear hk); (try clear hi); (try clear ho0); obtain ⟨Ao79, co79, eo79⟩ := Kd.R_slice HO268.out; subst eo79; have hnb80 := NB249_247.out; have hnc80 := NB247_249.out; refine cz2_ BK249.out ?_; intro hcz81_0 hcz81_1 hfz81_0 hfz81_1))
             go_meet
             case rel => exact ⟨_, (0), (t266), (0), (.slice Ao79 t266.length co79), H', ⟨by have := HJ31.out; first | omega | exact Nat.le_refl _⟩, ⟨by (with_reducible repeat (first | apply Kd.R_alloc | apply Kd.R_drewN | apply Kd.R_drew)); exact Kd.R_mono (Kd.R_far (p := ⟨gb249, 0, none⟩) (Kd.R_types HO268.out BK249.out (by decide)) (fun _ hk => hk.2) (.slice Ao79 t266.length co79)) (fun _ hk => trivial)⟩, ⟨by (with_reducible repeat (first | refine blk_drewN ?_ _ | refine blk_drew ?_ | refine blk_alloc ?_ _)); refine blk_far ?_ NB246_249.out _; (with_reducible repeat (first | refine blk_drewN ?_ _ | refine blk_drew ?_ | refine blk_alloc ?_ _)); exact BK246.out⟩, ⟨by (with_reducible repeat (first | refine blk_drewN ?_ _ | refine blk_drew ?_ | refine blk_alloc ?_ _)); refine blk_far ?_ NB247_249.out _; (with_reducible repeat (first | refine blk_drewN ?_ _ | refine blk_drew ?_ | refine blk_alloc ?_ _)); exact BK247.out⟩, ⟨by (with_reducible repeat (first | refine blk_drewN ?_ _ | refine blk_drew ?_ | refine blk_alloc ?_ _)); refine blk_put (cs := #[.slice none 0 0, .int .i64 0]) ?_ 0 _ rfl; (with_reducible repeat (first | refine blk_drewN ?_ _ | refine blk_drew ?_ | refine blk_alloc ?_ _)); exact BK249.out⟩, ⟨bl3_ HB GE246 GE247 GE249⟩⟩
            ·rw [if_neg c72] at H
             exact absurd H (by simp)
           ·rw [if_neg c71] at H
            have c71b0 : (a0_0 == 23) = false := beq_eq_false_iff_ne.mpr c71
            have c71b1 : (a0_0 != 23) = true := bne_iff_ne.mpr c71
            have H' := Aside0.mk H
            clear H
            have hnb82 := NB246_247.out
            have hnc82 := NB247_246.out
            have hnb83 := NB246_249.out
            have hnc83 := NB249_246.out
            refine cz7_ BK246.out ?_; intro hcz84_0 hcz84_1 hcz84_2 hcz84_3 hcz84_4 hcz84_5 hcz84_6 hfz84_0 hfz84_1 hfz84_2 hfz84_3 hfz84_4 hfz84_5 hfz84_6
            go_wp2
            go_meet
            case rel => exact ⟨_, (0), (([] : List Int)), (0), (.slice none 0 0), H', ⟨by have := HJ31.out; first | omega | exact Nat.le_refl _⟩, ⟨by first | exact Kd.R_nil _ _ _ _ _ | exact Kd.N_nil _ _ _ _ _ | exact Kd.V_nil _ _ _ _ _ | exact Kd.Q_nil _ _ _ _ _ | exact Kd.S_nil _ _ _ _ _⟩, ⟨bk_ BK246⟩, ⟨bk_ BK247⟩, ⟨bk_ BK249⟩, ⟨bl3_ HB GE246 GE247 GE249⟩⟩
    ·rw [if_neg c18] at H
     exact absurd H (by simp)
  case rest =>
   clear HC5
   try clear c1
   try clear c2
   try clear p2
   try clear q2
   try clear hx2
   try clear qi2
   try clear c3
   try clear c4
   try clear c4b0
   try clear c4b1
   try clear c5
   try clear c6
   try clear p6
   try clear c7
   try clear c8
   try clear c12
   try clear c12b0
   try clear c12b1
   try clear c13
   try clear c14
   try clear c16
   try clear c18
   try clear c18b0
   try clear c18b1
   try clear c19
   try clear c19b0
   try clear c19b1
   try clear c20
   try clear c20b0
   try clear c20b1
   try clear c21
   try clear c21b0
   try clear c21b1
   try clear c23
   try clear c24
   try clear p25
   try clear q25
   try clear hx25
   try clear qi25
   try clear c26
   try clear c29
   try clear c30
   try clear c34
   try clear c34b0
   try clear c34b1
   try clear c35
   try clear c36
   try clear c38
   try clear c39
   try clear c41
   try clear c42
   try clear c42b0
   try clear c42b1
   try clear c48
   try clear c49
   try clear c49b0
   try clear c49b1
   try clear c50
   try clear c50b0
   try clear c50b1
   try clear c52
   try clear c53
   try clear c58
   try clear c60
   try clear c60b0
   try clear c60b1
   try clear c61
   try clear c61b0
   try clear c61b1
   try clear c63
   try clear c64
   try clear c69
   try clear c71
   try clear c71b0
   try clear c71b1
   try clear c72
   try clear c72b0
   try clear c72b1
   try clear c74
   try clear c75
   try clear c80
   try clear c82
   try clear c83
   try clear hcz15_0 hcz15_1
   try clear hcz17_0 hcz17_1
   try clear hcz25_0 hcz25_1
   try clear hcz27_0 hcz27_1
   try clear hcz31_0 hcz31_1
   try clear hcz37_0 hcz37_1 hcz37_2 hcz37_3 hcz37_4 hcz37_5 hcz37_6
   try clear hcz40_0 hcz40_1 hcz40_2 hcz40_3 hcz40_4 hcz40_5 hcz40_6
   try clear hcz54_0 hcz54_1 hcz54_2 hcz54_3 hcz54_4 hcz54_5 hcz54_6
   try clear hcz59_0 hcz59_1
   try clear hcz65_0 hcz65_1 hcz65_2 hcz65_3 hcz65_4 hcz65_5 hcz65_6
   try clear hcz70_0 hcz70_1
   try clear hcz76_0 hcz76_1 hcz76_2 hcz76_3 hcz76_4 hcz76_5 hcz76_6
   try clear hcz81_0 hcz81_1
   try clear hcz84_0 hcz84_1 hcz84_2 hcz84_3 hcz84_4 hcz84_5 hcz84_6
   try clear hcz9_0 hcz9_1 hcz9_2 hcz9_3 hcz9_4 hcz9_5 hcz9_6
   try clear hfz15_0 hfz15_1
   try clear hfz17_0 hfz17_1
   try clear hfz25_0 hfz25_1
   try clear hfz27_0 hfz27_1
   try clear hfz31_0 hfz31_1
   try clear hfz37_0 hfz37_1 hfz37_2 hfz37_3 hfz37_4 hfz37_5 hfz37_6
   try clear hfz40_0 hfz40_1 hfz40_2 hfz40_3 hfz40_4 hfz40_5 hfz40_6
   try clear hfz54_0 hfz54_1 hfz54_2 hfz54_3 hfz54_4 hfz54_5 hfz54_6
   try clear hfz59_0 hfz59_1
   try clear hfz65_0 hfz65_1 hfz65_2 hfz65_3 hfz65_4 hfz65_5 hfz65_6
   try clear hfz70_0 hfz70_1
   try clear hfz76_0 hfz76_1 hfz76_2 hfz76_3 hfz76_4 hfz76_5 hfz76_6
   try clear hfz81_0 hfz81_1
   try clear hfz84_0 hfz84_1 hfz84_2 hfz84_3 hfz84_4 hfz84_5 hfz84_6
   try clear hfz9_0 hfz9_1 hfz9_2 hfz9_3 hfz9_4 hfz9_5 hfz9_6
   try clear hx250_0
   try clear hx251_0
   try clear p2
   try clear p25
   try clear p250
   try clear p251
   try clear p6
   try clear q2
   try clear q25
   try clear q250
   try clear q251
   obtain ⟨kq, x248001_4, x250000_4, x250001_4, u250000, HA, HJ4, HO_250000, BK246, BK247, BK249, HB⟩ := hcut
   cases kq with
   | zero => exact absurd HA.out (by simp [pdu_AnswerParse.j1])
   | succ kj4 =>
    have H := HA.out
    clear HA
    simp only [pdu_AnswerParse.j1] at H
    replace H := Option.bind_eq_some_iff.mp H
    obtain ⟨⟨t269, t272⟩, A850, H⟩ := H
    replace H : (if t272 = 0 then ((bytes_Equal.f t269 l1).bind fun t273 => (if t273 = true then (some (x250000_4, x250001_4, 0)) else (some (([] : List Int), 0, 4)))) else (some (([] : List Int), 0, 4))) = some (r1, r2, r3) := H
    have A85 := Aside0.mk A850
    clear A850
    by_cases c86 : t272 = 0
    ·rw [if_pos c86] at H
     have c86b0 : (t272 == 0) = true := beq_iff_eq.mpr c86
     have c86b1 : (t272 != 0) = false := bne_eq_false_iff_eq.mpr c86
     clear c86
     replace H := Option.bind_eq_some_iff.mp H
     obtain ⟨t273, A870, H⟩ := H
     replace H : (if t273 = true then (some (x250000_4, x250001_4, 0)) else (some (([] : List Int), 0, 4))) = some (r1, r2, r3) := H
     have A87 := Aside0.mk A870
     clear A870
     by_cases c88 : t273 = true
     ·subst c88
      have H1 : (some (x250000_4, x250001_4, 0)) = some (r1, r2, r3) := by rw [if_pos rfl] at H; exact H
      clear H
      have H := H1
      clear H1
      simp only [Option.some.injEq, Prod.mk.injEq] at H
      obtain ⟨rfl, rfl, rfl⟩ := H
      have hnb89 := NB246_247.out
      have hnc89 := NB247_246.out
      have hnb90 := NB246_249.out
      have hnc90 := NB249_246.out
      refine cz7_ BK246.out ?_; intro hcz91_0 hcz91_1 hcz91_2 hcz91_3 hcz91_4 hcz91_5 hcz91_6 hfz91_0 hfz91_1 hfz91_2 hfz91_3 hfz91_4 hfz91_5 hfz91_6
      have hnb92 := NB249_247.out
      have hnc92 := NB247_249.out
      refine cz2_ BK249.out ?_; intro hcz93_0 hcz93_1 hfz93_0 hfz93_1
      obtain ⟨Ao94, co94, eo94⟩ := Kd.R_slice HO_250000.out
      subst eo94
      go_wp2_with (first | ((with_reducible refine gate_callee (f := 50) rfl ?_); refine goesL_ (some 78) rfl rfl Try.func50 (by kernel_rfl) rfl #[.agg #[.int .i64 a0_0, .int .i64 a0_1, .int .i64 a0_2, .slice A0_3 l0_3.length c0_3, .int .i64 a0_4, .int .i64 a0_5, .int .i64 a0_6], .agg #[.slice Ao94 x250000_4.length co94, .int .i64 x250001_4]] rfl ar_ ?_; (with_reducible refine (pdu_AnswerBytes.calls kj4 a0_0 a0_1 a0_2 _ _ l0_3 a0_4 a0_5 a0_6 _ _ x250000_4 x250001_4 t269 t272 _ ?side1 ?side2 ?side3 ?side4 A85.out).mono ?_); (case side1 => exact sc_ (Kd.C_below HR0_3.out HB.out)); (case side2 => exact HC0_3.out); (case side3 => exact sc_ (Kd.R_reads' HO_250000.out).2.2); (case side4 => exact (Kd.R_reads' HO_250000.out).2.1); rintro e w95 ⟨v270, rfl, ho0, hb⟩; refine ⟨_, rfl, ?_⟩; have n0_ := Aside0.mk (Kd.R_below (kr_ HO_250000) hb); have n1_ := Aside0.mk (Kd.R_lower ho0 (below_size (bl3_ HB GE246 GE247 GE249))); have n2_ := Aside0.mk (blk_below (g := gb246) (bk_ BK246) hb); have n3_ := Aside0.mk (blk_below (g := gb247) (bk_ BK247) hb); have n4_ := Aside0.mk (blk_below (g := gb249) (bk_ BK249) hb); have n5_ := Aside0.mk (below_step (bl3_ HB GE246 GE247 GE249) hb); clear HO_250000; clear BK246; clear BK247; clear BK249; clear HB; have HO_250000 := n0_; have HO271 := n1_; have BK246 := n2_; have BK247 := n3_; have BK249 := n4_; have HB := n5_; clear n0_ n1_ n2_ n3_ n4_ n5_; (try clear hb); (try clear hb2); (try clear hk); (try clear hi); (try clear ho0); obtain ⟨Ao96, co96, eo96⟩ := Kd.R_slice HO271.out; subst eo96) | (go_at_call 51; (with_reducible refine (bytes_Equal.calls _ _ t269 _ _ l1 true _ ?side1 ?side2 ?side3 ?side4 A87.out).mono ?_); (case side1 => exact sc_ (Kd.R_reads' HO271.out).2.2); (case side2 => exact (Kd.R_reads' HO271.out).2.1); (case side3 => exact sc_ (Kd.C_below HR1.out HB.out)); (case side4 => exact HC1.out); rintro e w' ⟨rfl, ⟨nd, rfl⟩⟩; (try (rw [drewN_self w95]; generalize hq_ : World.drewN w95 _ = w95; have n0_ : Aside0 (Kd.R (Kd.int .u8) 5 w95 w.heap.size (fun _ => True) (.slice Ao96 t269.length co96) t269) := ⟨by rw [← hq_]; exact (kr_ HO271)⟩; have n1_ : Aside0 (Kd.R (Kd.int .i64) 3 w95 w.heap.size (fun _ => True) (.slice Ao94 x250000_4.length co94) x250000_4) := ⟨by rw [← hq_]; exact (kr_ HO_250000)⟩; have n2_ : Aside0 (w95.heap[gb246]? = some (.cells #[.int .i64 a0_0, .int .i64 a0_1, .int .i64 a0_2, .slice A0_3 l0_3.length c0_3, .int .i64 a0_4, .int .i64 a0_5, .int .i64 a0_6] 31 (0, 0))) := ⟨by rw [← hq_]; exact (bk_ BK246)⟩; have n3_ : Aside0 (w95.heap[gb247]? = some (.cells #[.slice none 0 0, .int .i64 x248001_4] 46 (0, 0))) := ⟨by rw [← hq_]; exact (bk_ BK247)⟩; have n4_ : Aside0 (w95.heap[gb249]? = some (.cells #[.slice Ao94 x250000_4.length co94, .int .i64 x250001_4] 46 (0, 0))) := ⟨by rw [← hq_]; exact (bk_ BK249)⟩; have n5_ : Aside0 (Below w.heap.size w w95) := ⟨by rw [← hq_]; exact (bl3_ HB GE246 GE247 GE249)⟩; clear HO271 HO_250000 BK246 BK247 BK249 HB hq_; have HO271 := n0_; have HO_250000 := n1_; have BK246 := n2_; have BK247 := n3_; have BK249 := n4_; have HB := n5_; clear n0_ n1_ n2_ n3_ n4_ n5_)); refine cz2_ BK249.out ?_; intro hcz97_0 hcz97_1 hfz97_0 hfz97_1; refine cz2_ BK247.out ?_; intro hcz98_0 hcz98_1 hfz98_0 hfz98_1))
      refine bodyPost_ret (results_ct rfl _ _ gb247 46 #[.slice Ao94 x250000_4.length co94, .int .i64 x250001_4] (0, 0) _ rfl (by (with_reducible repeat (first | refine blk_drewN ?_ _ | refine blk_drew ?_ | refine blk_alloc ?_ _)); refine blk_put (cs := #[.slice Ao94 x250000_4.length co94, .int .i64 x248001_4]) ?_ 1 _ rfl; (with_reducible repeat (first | refine blk_drewN ?_ _ | refine blk_drew ?_ | refine blk_alloc ?_ _)); refine blk_put (cs := #[.slice none 0 0, .int .i64 x248001_4]) ?_ 0 _ rfl; (with_reducible repeat (first | refine blk_drewN ?_ _ | refine blk_drew ?_ | refine blk_alloc ?_ _)); exact BK247.out) Try.underlying46 rfl (by kernel_rfl)) rfl ?_
      exact ⟨_, er_, by (with_reducible repeat (first | apply Kd.R_alloc | apply Kd.R_drewN | apply Kd.R_drew)); exact Kd.R_mono (Kd.R_far (p := ⟨gb247, 1, none⟩) (Kd.R_far (p := ⟨gb247, 0, none⟩) (Kd.R_types HO_250000.out BK247.out (by decide)) (fun _ hk => hk.2) (.slice Ao94 x250000_4.length co94)) (fun _ hk => hk.2) (.int .i64 x250001_4)) (fun _ hk => trivial), bl3_ HB GE246 GE247 GE249⟩
     ·replace c88 := Bool.eq_false_iff.mpr c88
      subst c88
      have H1 : (some (([] : List Int), 0, 4)) = some (r1, r2, r3) := by rw [if_neg (show ¬ (false = true) by decide)] at H; exact H
      clear H
      have H := H1
      clear H1
      simp only [Option.some.injEq, Prod.mk.injEq] at H
      obtain ⟨rfl, rfl, rfl⟩ := H
      have hnb99 := NB246_247.out
      have hnc99 := NB247_246.out
      have hnb100 := NB246_249.out
      have hnc100 := NB249_246.out
      refine cz7_ BK246.out ?_; intro hcz101_0 hcz101_1 hcz101_2 hcz101_3 hcz101_4 hcz101_5 hcz101_6 hfz101_0 hfz101_1 hfz101_2 hfz101_3 hfz101_4 hfz101_5 hfz101_6
      have hnb102 := NB249_247.out
      have hnc102 := NB247_249.out
      refine cz2_ BK249.out ?_; intro hcz103_0 hcz103_1 hfz103_0 hfz103_1
      obtain ⟨Ao104, co104, eo104⟩ := Kd.R_slice HO_250000.out
      subst eo104
      go_wp2_with (first | ((with_reducible refine gate_callee (f := 50) rfl ?_); refine goesL_ (some 78) rfl rfl Try.func50 (by kernel_rfl) rfl #[.agg #[.int .i64 a0_0, .int .i64 a0_1, .int .i64 a0_2, .slice A0_3 l0_3.length c0_3, .int .i64 a0_4, .int .i64 a0_5, .int .i64 a0_6], .agg #[.slice Ao104 x250000_4.length co104, .int .i64 x250001_4]] rfl ar_ ?_; (with_reducible refine (pdu_AnswerBytes.calls kj4 a0_0 a0_1 a0_2 _ _ l0_3 a0_4 a0_5 a0_6 _ _ x250000_4 x250001_4 t269 t272 _ ?side1 ?side2 ?side3 ?side4 A85.out).mono ?_); (case side1 => exact sc_ (Kd.C_below HR0_3.out HB.out)); (case side2 => exact HC0_3.out); (case side3 => exact sc_ (Kd.R_reads' HO_250000.out).2.2); (case side4 => exact (Kd.R_reads' HO_250000.out).2.1); rintro e w105 ⟨v270, rfl, ho0, hb⟩; refine ⟨_, rfl, ?_⟩; have n0_ := Aside0.mk (Kd.R_below (kr_ HO_250000) hb); have n1_ := Aside0.mk (Kd.R_lower ho0 (below_size (bl3_ HB GE246 GE247 GE249))); have n2_ := Aside0.mk (blk_below (g := gb246) (bk_ BK246) hb); have n3_ := Aside0.mk (blk_below (g := gb247) (bk_ BK247) hb); have n4_ := Aside0.mk (blk_below (g := gb249) (bk_ BK249) hb); have n5_ := Aside0.mk (below_step (bl3_ HB GE246 GE247 GE249) hb); clear HO_250000; clear BK246; clear BK247; clear BK249; clear HB; have HO_250000 := n0_; have HO271 := n1_; have BK246 := n2_; have BK247 := n3_; have BK249 := n4_; have HB := n5_; clear n0_ n1_ n2_ n3_ n4_ n5_; (try clear hb); (try clear hb2); (try clear hk); (try clear hi); (try clear ho0); obtain ⟨Ao106, co106, eo106⟩ := Kd.R_slice HO271.out; subst eo106) | (go_at_call 51; (with_reducible refine (bytes_Equal.calls _ _ t269 _ _ l1 false _ ?side1 ?side2 ?side3 ?side4 A87.out).mono ?_); (case side1 => exact sc_ (Kd.R_reads' HO271.out).2.2); (case side2 => exact (Kd.R_reads' HO271.out).2.1); (case side3 => exact sc_ (Kd.C_below HR1.out HB.out)); (case side4 => exact HC1.out); rintro e w' ⟨rfl, ⟨nd, rfl⟩⟩; (try (rw [drewN_self w105]; generalize hq_ : World.drewN w105 _ = w105; have n0_ : Aside0 (Kd.R (Kd.int .u8) 5 w105 w.heap.size (fun _ => True) (.slice Ao106 t269.length co106) t269) := ⟨by rw [← hq_]; exact (kr_ HO271)⟩; have n1_ : Aside0 (Kd.R (Kd.int .i64) 3 w105 w.heap.size (fun _ => True) (.slice Ao104 x250000_4.length co104) x250000_4) := ⟨by rw [← hq_]; exact (kr_ HO_250000)⟩; have n2_ : Aside0 (w105.heap[gb246]? = some (.cells #[.int .i64 a0_0, .int .i64 a0_1, .int .i64 a0_2, .slice A0_3 l0_3.length c0_3, .int .i64 a0_4, .int .i64 a0_5, .int .i64 a0_6] 31 (0, 0))) := ⟨by rw [← hq_]; exact (bk_ BK246)⟩; have n3_ : Aside0 (w105.heap[gb247]? = some (.cells #[.slice none 0 0, .int .i64 x248001_4] 46 (0, 0))) := ⟨by rw [← hq_]; exact (bk_ BK247)⟩; have n4_ : Aside0 (w105.heap[gb249]? = some (.cells #[.slice Ao104 x250000_4.length co104, .int .i64 x250001_4] 46 (0, 0))) := ⟨by rw [← hq_]; exact (bk_ BK249)⟩; have n5_ : Aside0 (Below w.heap.size w w105) := ⟨by rw [← hq_]; exact (bl3_ HB GE246 GE247 GE249)⟩; clear HO271 HO_250000 BK246 BK247 BK249 HB hq_; have HO271 := n0_; have HO_250000 := n1_; have BK246 := n2_; have BK247 := n3_; have BK249 := n4_; have HB := n5_; clear n0_ n1_ n2_ n3_ n4_ n5_)); refine cz2_ BK247.out ?_; intro hcz107_0 hcz107_1 hfz107_0 hfz107_1))
      refine bodyPost_ret (results_ct rfl _ _ gb247 46 #[.slice none 0 0, .int .i64 0] (0, 0) _ rfl (by (with_reducible repeat (first | refine blk_drewN ?_ _ | refine blk_drew ?_ | refine blk_alloc ?_ _)); refine blk_put (cs := #[.slice none 0 0, .int .i64 x248001_4]) ?_ 1 _ rfl; (with_reducible repeat (first | refine blk_drewN ?_ _ | refine blk_drew ?_ | refine blk_alloc ?_ _)); refine blk_put (cs := #[.slice none 0 0, .int .i64 x248001_4]) ?_ 0 _ rfl; (with_reducible repeat (first | refine blk_drewN ?_ _ | refine blk_drew ?_ | refine blk_alloc ?_ _)); exact BK247.out) Try.underlying46 rfl (by kernel_rfl)) rfl ?_
      exact ⟨_, er_, by first | exact Kd.R_nil _ _ _ _ _ | exact Kd.N_nil _ _ _ _ _ | exact Kd.V_nil _ _ _ _ _ | exact Kd.Q_nil _ _ _ _ _ | exact Kd.S_nil _ _ _ _ _, bl3_ HB GE246 GE247 GE249⟩
    ·rw [if_neg c86] at H
     have c86b0 : (t272 == 0) = false := beq_eq_false_iff_ne.mpr c86
     have c86b1 : (t272 != 0) = true := bne_iff_ne.mpr c86
     simp only [Option.some.injEq, Prod.mk.injEq] at H
     obtain ⟨rfl, rfl, rfl⟩ := H
     have hnb108 := NB246_247.out
     have hnc108 := NB247_246.out
     have hnb109 := NB246_249.out
     have hnc109 := NB249_246.out
     refine cz7_ BK246.out ?_; intro hcz110_0 hcz110_1 hcz110_2 hcz110_3 hcz110_4 hcz110_5 hcz110_6 hfz110_0 hfz110_1 hfz110_2 hfz110_3 hfz110_4 hfz110_5 hfz110_6
     have hnb111 := NB249_247.out
     have hnc111 := NB247_249.out
     refine cz2_ BK249.out ?_; intro hcz112_0 hcz112_1 hfz112_0 hfz112_1
     obtain ⟨Ao113, co113, eo113⟩ := Kd.R_slice HO_250000.out
     subst eo113
     go_wp2_with (first | ((with_reducible refine gate_callee (f := 50) rfl ?_); refine goesL_ (some 78) rfl rfl Try.func50 (by kernel_rfl) rfl #[.agg #[.int .i64 a0_0, .int .i64 a0_1, .int .i64 a0_2, .slice A0_3 l0_3.length c0_3, .int .i64 a0_4, .int .i64 a0_5, .int .i64 a0_6], .agg #[.slice Ao113 x250000_4.length co113, .int .i64 x250001_4]] rfl ar_ ?_; (with_reducible refine (pdu_AnswerBytes.calls kj4 a0_0 a0_1 a0_2 _ _ l0_3 a0_4 a0_5 a0_6 _ _ x250000_4 x250001_4 t269 t272 _ ?side1 ?side2 ?side3 ?side4 A85.out).mono ?_); (case side1 => exact sc_ (Kd.C_below HR0_3.out HB.out)); (case side2 => exact HC0_3.out); (case side3 => exact sc_ (Kd.R_reads' HO_250000.out).2.2); (case side4 => exact (Kd.R_reads' HO_250000.out).2.1); rintro e w114 ⟨v270, rfl, ho0, hb⟩; refine ⟨_, rfl, ?_⟩; have n0_ := Aside0.mk (Kd.R_below (kr_ HO_250000) hb); have n1_ := Aside0.mk (Kd.R_lower ho0 (below_size (bl3_ HB GE246 GE247 GE249))); have n2_ := Aside0.mk (blk_below (g := gb246) (bk_ BK246) hb); have n3_ := Aside0.mk (blk_below (g := gb247) (bk_ BK247) hb); have n4_ := Aside0.mk (blk_below (g := gb249) (bk_ BK249) hb); have n5_ := Aside0.mk (below_step (bl3_ HB GE246 GE247 GE249) hb); clear HO_250000; clear BK246; clear BK247; clear BK249; clear HB; have HO_250000 := n0_; have HO271 := n1_; have BK246 := n2_; have BK247 := n3_; have BK249 := n4_; have HB := n5_; clear n0_ n1_ n2_ n3_ n4_ n5_; (try clear hb); (try clear hb2); (try clear hk); (try clear hi); (try clear ho0); refine cz2_ BK247.out ?_; intro hcz115_0 hcz115_1 hfz115_0 hfz115_1))
     refine bodyPost_ret (results_ct rfl _ _ gb247 46 #[.slice none 0 0, .int .i64 0] (0, 0) _ rfl (by (with_reducible repeat (first | refine blk_drewN ?_ _ | refine blk_drew ?_ | refine blk_alloc ?_ _)); refine blk_put (cs := #[.slice none 0 0, .int .i64 x248001_4]) ?_ 1 _ rfl; (with_reducible repeat (first | refine blk_drewN ?_ _ | refine blk_drew ?_ | refine blk_alloc ?_ _)); refine blk_put (cs := #[.slice none 0 0, .int .i64 x248001_4]) ?_ 0 _ rfl; (with_reducible repeat (first | refine blk_drewN ?_ _ | refine blk_drew ?_ | refine blk_alloc ?_ _)); exact BK247.out) Try.underlying46 rfl (by kernel_rfl)) rfl ?_
     exact ⟨_, er_, by first | exact Kd.R_nil _ _ _ _ _ | exact Kd.N_nil _ _ _ _ _ | exact Kd.V_nil _ _ _ _ _ | exact Kd.Q_nil _ _ _ _ _ | exact Kd.S_nil _ _ _ _ _, bl3_ HB GE246 GE247 GE249⟩
 ·rw [if_neg c4] at H
  have c4b0 : (t248 == 0) = false := beq_eq_false_iff_ne.mpr c4
  have c4b1 : (t248 != 0) = true := bne_iff_ne.mpr c4
  simp only [Option.some.injEq, Prod.mk.injEq] at H
  obtain ⟨rfl, rfl, rfl⟩ := H
  go_enter Try.func35, Try.ntmps35
  go_wp2_with (first | ((with_reducible refine gate_dst (N := 2) rfl ?_); refine bx_ (N := 2) (cs := #[.int .i64 a0_0, .int .i64 a0_1, .int .i64 a0_2, .slice A0_3 l0_3.length c0_3, .int .i64 a0_4, .int .i64 a0_5, .int .i64 a0_6]) (t := 31) ?_; intro gb246 hg w116 hbox hb; have n0_ := Aside0.mk (below_step (bl0_ HB) hb); have n1_ := Aside0.mk (hbox); have n2_ := Aside0.mk ((by rw [hg]; exact (below_size (bl0_ HB)) : w.heap.size ≤ gb246)); have n3_ := Aside0.mk ((by rw [hg]; exact (below_size (bl0_ HB)) : w.heap.size ≤ gb246)); clear HB; have HB := n0_; have BK246 := n1_; have GW246 := n2_; have GE246 := n3_; clear n0_ n1_ n2_ n3_; clear hb hbox hg) | ((with_reducible refine gate_dst (N := 4) rfl ?_); refine bx_ (N := 4) (cs := #[.slice none 0 0, .int .i64 0]) (t := 46) ?_; intro gb247 hg w117 hbox hb; have n0_ := Aside0.mk (blk_below (g := gb246) (bk_ BK246) hb); have n1_ := Aside0.mk (below_step (bl1_ HB GE246) hb); have n2_ := Aside0.mk (hbox); have n3_ := Aside0.mk ((by rw [hg]; exact (below_size (bl1_ HB GE246)) : w.heap.size ≤ gb247)); have n4_ := Aside0.mk ((by rw [hg]; exact (below_size (bl1_ HB GE246)) : w.heap.size ≤ gb247)); have n5_ := Aside0.mk ((by rw [hg]; exact Nat.ne_of_lt (blk_lt (g := gb246) (bk_ BK246)) : gb246 ≠ gb247)); have n6_ := Aside0.mk ((by rw [hg]; exact Nat.ne_of_gt (blk_lt (g := gb246) (bk_ BK246)) : gb247 ≠ gb246)); clear BK246; clear HB; have BK246 := n0_; have HB := n1_; have BK247 := n2_; have GW247 := n3_; have GE247 := n4_; have NB246_247 := n5_; have NB247_246 := n6_; clear n0_ n1_ n2_ n3_ n4_ n5_ n6_; clear hb hbox hg; have hnb118 := NB246_247.out; have hnc118 := NB247_246.out; refine cz7_ BK246.out ?_; intro hcz119_0 hcz119_1 hcz119_2 hcz119_3 hcz119_4 hcz119_5 hcz119_6 hfz119_0 hfz119_1 hfz119_2 hfz119_3 hfz119_4 hfz119_5 hfz119_6) | ((with_reducible refine gate_callee (f := 29) rfl ?_); refine goesL_ (some 11) rfl rfl Try.func29 (by kernel_rfl) rfl #[.agg #[.int .i64 a0_0, .int .i64 a0_1, .int .i64 a0_2, .slice A0_3 l0_3.length c0_3, .int .i64 a0_4, .int .i64 a0_5, .int .i64 a0_6]] rfl ar_ ?_; (with_reducible refine (pdu_Check.calls a0_0 a0_1 a0_2 _ _ l0_3 a0_4 a0_5 a0_6 t248 _ ?side1 ?side2 A3.out).mono ?_); (case side1 => exact sc_ (Kd.C_below HR0_3.out HB.out)); (case side2 => exact HC0_3.out); rintro e w120 ⟨rfl, hb⟩; refine ⟨_, rfl, ?_⟩; have n0_ := Aside0.mk (blk_below (g := gb246) (bk_ BK246) hb); have n1_ := Aside0.mk (blk_below (g := gb247) (bk_ BK247) hb); have n2_ := Aside0.mk (below_step (bl2_ HB GE246 GE247) hb); clear BK246; clear BK247; clear HB; have BK246 := n0_; have BK247 := n1_; have HB := n2_; clear n0_ n1_ n2_; (try clear hb); (try clear hb2); (try clear hk); (try clear hi); refine cz2_ BK247.out ?_; intro hcz121_0 hcz121_1 hfz121_0 hfz121_1))
  refine bodyPost_ret (results_ct rfl _ _ gb247 46 #[.slice none 0 0, .int .i64 0] (0, 0) _ rfl (by (with_reducible repeat (first | refine blk_drewN ?_ _ | refine blk_drew ?_ | refine blk_alloc ?_ _)); refine blk_put (cs := #[.slice none 0 0, .int .i64 0]) ?_ 1 _ rfl; (with_reducible repeat (first | refine blk_drewN ?_ _ | refine blk_drew ?_ | refine blk_alloc ?_ _)); refine blk_put (cs := #[.slice none 0 0, .int .i64 0]) ?_ 0 _ rfl; (with_reducible repeat (first | refine blk_drewN ?_ _ | refine blk_drew ?_ | refine blk_alloc ?_ _)); exact BK247.out) Try.underlying46 rfl (by kernel_rfl)) rfl ?_
  exact ⟨_, er_, by first | exact Kd.R_nil _ _ _ _ _ | exact Kd.N_nil _ _ _ _ _ | exact Kd.V_nil _ _ _ _ _ | exact Kd.Q_nil _ _ _ _ _ | exact Kd.S_nil _ _ _ _ _, bl2_ HB GE246 GE247⟩
end Go.Proofs.Ytlalpooiegganaa.PG
end

section
namespace Go.Proofs.Ytlalpooiegganaa.MsgG
open Go.RowKit Go.Proofs.YtlalpooiegganaaW.PrintWords Go.Proofs.YtlalpooiegganaaW.PrintLast Go.Proofs.YtlalpooiegganaaW.PrintMore Go.Proofs.Ytlalpooiegganaa.Core Go.Proofs.Ytlalpooiegganaa.Wk Go.Proofs.Ytlalpooiegganaa.PMasterWaits Go.Proofs.Ytlalpooiegganaa.Msg Go.Proofs.Ytlalpooiegganaa.MsgB Go.Proofs.Ytlalpooiegganaa.MsgC Go.Proofs.Ytlalpooiegganaa.MsgD
set_option linter.unusedVariables false
set_option linter.unusedSimpArgs false
theorem irow_R {W : World} {base : Nat} {ok : Nat → Prop} {v : Value} {vs : List Int} (h : Kd.R (Kd.int .i64) 3 W base ok v vs) (hl : vs.length ≤ 9223372036854775807) : ∃ A' k', v = .slice A' vs.length k' ∧ vs.length ≤ k' ∧ IRow W A' vs.length vs := by
 have h1 := Kd.own_of_R h
 obtain ⟨A', k', e⟩ := own_slice h1
 refine ⟨A', k', e, by subst e; exact own_cap h1, rfl, hl, fun hn => ?_⟩
 obtain ⟨g, cap, e2, _, _⟩ := h1.form hn
 rw [e] at e2
 injection e2 with e2 _ _
 obtain ⟨cur, hb⟩ := own_typed h1 g (by rw [e, e2]; rfl)
 refine ⟨g, cur, e2, hb, fun j hj => ?_⟩
 subst e
 subst e2
 have := h1.cells rfl j (.int .i64 (vs.getD j 0)) (by simp [encs, List.getD_eq_getElem?_getD, List.getElem?_eq_getElem hj])
 rw [show (⟨g, 0, none⟩ : Addr).add j = ⟨g, j, none⟩ from by simp [Addr.add] <;> omega, blk_cell hb j] at this
 exact this
theorem parse_q {x : SV} {vs : List Int} {w : World} (h : IRow w x.A x.l vs) (hk : x.l ≤ x.k) {A : Option Addr} {c : Nat} {b : List Int} (hb : Kd.C (Kd.int .u8) w A b.length b) (hc : b.length ≤ c) {al : List Int} {code r : Int} (hp : ∃ K, PG.pdu_AnswerParse.f K x.f x.a x.c vs x.o x.n x.r b = some (al, code, r)) : Calls Try.prog 35 #[.agg #[.int .i64 x.f, .int .i64 x.a, .int .i64 x.c, .slice x.A x.l x.k, .int .i64 x.o, .int .i64 x.n, .int .i64 x.r], .slice A b.length c] w fun e w' => ∃ v0_ : Value, e = .returned (.tuple #[.agg #[v0_, .int .i64 code], .int .i64 r]) ∧ Kd.R (Kd.int .i64) 3 w' w.heap.size (fun _ => True) v0_ al ∧ Below w.heap.size w w' := by
 obtain ⟨K, hp⟩ := hp
 have hl := h.1
 rw [← hl] at hk ⊢
 exact PG.pdu_AnswerParse.calls K x.f x.a x.c x.A x.k vs x.o x.n x.r A c b al code r w (irow_C h) hk hb hc hp
def CameR (w' : World) (t : Int) (al : List Int) (code : Int) (v : Value) : Prop := ∃ gd A' k', v = .slice (some ⟨gd, 0, none⟩) 1 1 ∧ al.length ≤ k' ∧ w'.heap[gd]? = some (.cells #[.int .i64 t, .slice A' al.length k', .int .i64 code, .bool false] 48 (0, 0)) ∧ IRow w' A' al.length al
theorem chk_no {q : SV} {vs : List Int} {w : World} (hC : Kd.C (Kd.int .i64) w q.A vs.length vs) (hl : vs.length = q.l) (hb : Chk.chkB q.f q.a q.c vs q.o q.n q.r = false) : Calls Try.prog 29 #[.agg #[.int .i64 q.f, .int .i64 q.a, .int .i64 q.c, .slice q.A q.l q.k, .int .i64 q.o, .int .i64 q.n, .int .i64 q.r]] w fun e w' => e = .returned (.int .i64 1) ∧ Below w.heap.size w w' := by
 rw [← hl]
 refine (Chk.chk_c q.f q.a q.c q.A q.k vs q.o q.n q.r w hC).mono (fun e w' h => ?_)
 rw [hb] at h
 exact h
set_option maxHeartbeats 4000000 in
set_option maxRecDepth 100000 in
theorem came_none {B : Nat} {w : World} {g m : Nat} {wait again pause now tk times last : Int} {rest : Int → Int} {line : List SV} (h : IsM B w g m ⟨wait, again, pause, now, tk, line, none, times, last, rest⟩) (hB : B ≤ w.heap.size) (t : Int) (h0 : 0 ≤ t) (h1 : now ≤ t) (u : Int) (A : Option Addr) (bl c : Nat) : Calls Try.prog 14 #[.pointer (some ⟨g, 0, none⟩), .int .i64 t, .int .i64 u, .slice A bl c] w fun e w' => e = .returned (.tuple #[.slice none 0 0, .int .i64 5]) ∧ IsM B w' g m ⟨wait, again, pause, t, tk, line, none, times, last, rest⟩ ∧ Ext (Gm g m) w w' ∧ Keeps w w' := by
 have H := Aside0.mk h; have HB := Aside0.mk hB; have T0 := Aside0.mk h0; have T1 := Aside0.mk h1
 clear h hB h0 h1
 have hu31 := Try.underlying31; have hu39 := Try.underlying39; have hu46 := Try.underlying46; have hu48 := Try.underlying48
 go_enter Try.func14, Try.ntmps14
 go_upto_region 4 with (go_at_call 31; refine (goon_f H.out HB.out t T0.out T1.out).mono ?_; rintro e w1 ⟨rfl, HI, HXg, HKg⟩; have HI := Aside0.mk HI; have HX := Aside0.mk HXg; have HBB : Aside0 (Ext (Gm g m) w w1) := ⟨extg HXg⟩; have HKG := Aside0.mk HKg; clear HXg HKg)
 clear H
 have HBW : Aside0 (B ≤ w1.heap.size) := ⟨Nat.le_trans HB.out HBB.out.size⟩
 obtain ⟨⟨vl, vo, hb, hl, ho⟩, ⟨f, n, hm, hf⟩⟩ := HI.out
 clear HI
 obtain rfl : vo = .pointer none := ho
 have BK_g : Aside0 (w1.heap[g]? = some (.cells #[.int .i64 wait, .int .i64 again, .int .i64 pause, .int .i64 t, .int .i64 tk, vl, .pointer none, .int .i64 times, .int .i64 last, .map (some m)] 73 (0, 0))) := ⟨hb⟩
 have OB_l : Aside0 (OwnE ks (fun _ => False) 39 B w1 vl (line)) := ⟨hl⟩
 have MP_m := Aside0.mk hm; have HF := Aside0.mk hf
 have NE_l_g : Aside0 (∀ k, (vl).ownBlock = some k → k ≠ g) := ⟨ks_ne hl hb (by decide)⟩; have NE_l_m : Aside0 (∀ k, (vl).ownBlock = some k → k ≠ m) := ⟨ks_nm hl hm⟩; have NE_g_m : Aside0 (g ≠ m) := ⟨cell_nm hb hm⟩; have NE_m_g : Aside0 (m ≠ g) := ⟨fun e => NE_g_m.out e.symm⟩; have F_g : Aside0 (∀ k, k = g → Gm g m k ∨ w1.heap.size ≤ k) := ⟨fun k e => .inl (.inl e)⟩; have F_m : Aside0 (∀ k, k = m → Gm g m k ∨ w1.heap.size ≤ k) := ⟨fun k e => .inl (.inr e)⟩
 clear hb hl hm hf
 have XT : Aside0 (Ext (Gm g m) w1 w1) := ⟨Ext.refl _ _⟩
 refine cl10_ BK_g.out ?_; intro lc1_0 lc1_1 lc1_2 lc1_3 lc1_4 lc1_5 lc1_6 lc1_7 lc1_8 lc1_9 lf1_0 lf1_1 lf1_2 lf1_3 lf1_4 lf1_5 lf1_6 lf1_7 lf1_8 lf1_9
 have KP : Aside0 (Keeps w1 w1) := ⟨fun _ _ _ h _ _ => h⟩
 go_wp2
 go_ret2
 exact ⟨rfl, ⟨⟨_, _, BK_g.out, OB_l.out, rfl⟩, ⟨_, _, MP_m.out, HF.out⟩⟩, HBB.out.trans XT.out, HKG.out.trans KP.out⟩
set_option maxHeartbeats 4000000 in
set_option maxRecDepth 100000 in
theorem came_unlike {B : Nat} {w : World} {g m : Nat} {wait again pause now tk times last : Int} {rest : Int → Int} {line : List SV} {x : SV} (h : IsM B w g m ⟨wait, again, pause, now, tk, line, some x, times, last, rest⟩) (hB : B ≤ w.heap.size) (t : Int) (h0 : 0 ≤ t) (h1 : now ≤ t) (u : Int) (hq : x.u ≠ u) (A : Option Addr) (bl c : Nat) : Calls Try.prog 14 #[.pointer (some ⟨g, 0, none⟩), .int .i64 t, .int .i64 u, .slice A bl c] w fun e w' => e = .returned (.tuple #[.slice none 0 0, .int .i64 5]) ∧ IsM B w' g m ⟨wait, again, pause, t, tk, line, some x, times, last, rest⟩ ∧ Ext (Gm g m) w w' ∧ Keeps w w' := by
 have H := Aside0.mk h; have HB := Aside0.mk hB; have T0 := Aside0.mk h0; have T1 := Aside0.mk h1
 clear h hB h0 h1
 have qa : decide (x.u = u) = false := decide_eq_false hq; have qb : (x.u == u) = false := beq_eq_false_iff_ne.2 hq; have qc : (x.u != u) = true := by rw [bne, qb]; rfl
 have hu31 := Try.underlying31; have hu39 := Try.underlying39; have hu46 := Try.underlying46; have hu48 := Try.underlying48
 go_enter Try.func14, Try.ntmps14
 go_upto_region 4 with (go_at_call 31; refine (goon_f H.out HB.out t T0.out T1.out).mono ?_; rintro e w1 ⟨rfl, HI, HXg, HKg⟩; have HI := Aside0.mk HI; have HX := Aside0.mk HXg; have HBB : Aside0 (Ext (Gm g m) w w1) := ⟨extg HXg⟩; have HKG := Aside0.mk HKg; clear HXg HKg)
 clear H
 have HBW : Aside0 (B ≤ w1.heap.size) := ⟨Nat.le_trans HB.out HBB.out.size⟩
 obtain ⟨⟨vl, vo, hb, hl, ho⟩, ⟨f, n, hm, hf⟩⟩ := HI.out
 clear HI
 obtain ⟨go, rfl, hgo, bgo, nlo⟩ := ho
 have BK_g : Aside0 (w1.heap[g]? = some (.cells #[.int .i64 wait, .int .i64 again, .int .i64 pause, .int .i64 t, .int .i64 tk, vl, .pointer (some ⟨go, 0, none⟩), .int .i64 times, .int .i64 last, .map (some m)] 73 (0, 0))) := ⟨hb⟩
 have OB_l : Aside0 (OwnE ks (fun _ => False) 39 B w1 vl (line)) := ⟨hl⟩
 have MP_m := Aside0.mk hm; have HF := Aside0.mk hf
 have NE_l_g : Aside0 (∀ k, (vl).ownBlock = some k → k ≠ g) := ⟨ks_ne hl hb (by decide)⟩; have NE_l_m : Aside0 (∀ k, (vl).ownBlock = some k → k ≠ m) := ⟨ks_nm hl hm⟩; have NE_g_m : Aside0 (g ≠ m) := ⟨cell_nm hb hm⟩; have NE_m_g : Aside0 (m ≠ g) := ⟨fun e => NE_g_m.out e.symm⟩; have F_g : Aside0 (∀ k, k = g → Gm g m k ∨ w1.heap.size ≤ k) := ⟨fun k e => .inl (.inl e)⟩; have F_m : Aside0 (∀ k, k = m → Gm g m k ∨ w1.heap.size ≤ k) := ⟨fun k e => .inl (.inr e)⟩
 have BK_go : Aside0 (w1.heap[go]? = some (.cells #[.int .i64 x.t, .int .i64 x.u, .int .i64 x.f, .int .i64 x.a, .int .i64 x.c, .slice x.A x.l x.k, .int .i64 x.o, .int .i64 x.n, .int .i64 x.r] 39 (0, 0))) := ⟨hgo⟩; have BGO := Aside0.mk bgo; have NE_l_go : Aside0 (∀ k, (vl).ownBlock = some k → k ≠ go) := ⟨nlo⟩; have NE_go_g : Aside0 (go ≠ g) := ⟨blk_ne hgo hb (by decide)⟩; have NE_g_go : Aside0 (g ≠ go) := ⟨fun e => NE_go_g.out e.symm⟩; have NE_go_m : Aside0 (go ≠ m) := ⟨cell_nm hgo hm⟩; have NE_m_go : Aside0 (m ≠ go) := ⟨fun e => NE_go_m.out e.symm⟩; clear hgo bgo nlo
 clear hb hl hm hf
 have XT : Aside0 (Ext (Gm g m) w1 w1) := ⟨Ext.refl _ _⟩
 refine cl10_ BK_g.out ?_; intro lc1_0 lc1_1 lc1_2 lc1_3 lc1_4 lc1_5 lc1_6 lc1_7 lc1_8 lc1_9 lf1_0 lf1_1 lf1_2 lf1_3 lf1_4 lf1_5 lf1_6 lf1_7 lf1_8 lf1_9
 refine cl9_ BK_go.out ?_; intro lc2_0 lc2_1 lc2_2 lc2_3 lc2_4 lc2_5 lc2_6 lc2_7 lc2_8 lf2_0 lf2_1 lf2_2 lf2_3 lf2_4 lf2_5 lf2_6 lf2_7 lf2_8
 have KP : Aside0 (Keeps w1 w1) := ⟨fun _ _ _ h _ _ => h⟩
 go_wp2
 go_ret2
 exact ⟨rfl, ⟨⟨_, _, BK_g.out, OB_l.out, ⟨go, rfl, BK_go.out, BGO.out, NE_l_go.out⟩⟩, ⟨_, _, MP_m.out, HF.out⟩⟩, HBB.out.trans XT.out, HKG.out.trans KP.out⟩
set_option maxHeartbeats 4000000 in
set_option maxRecDepth 100000 in
theorem came_fail {B : Nat} {w : World} {g m : Nat} {wait again pause now tk times last : Int} {rest : Int → Int} {line : List SV} {x : SV} (h : IsM B w g m ⟨wait, again, pause, now, tk, line, some x, times, last, rest⟩) (hB : B ≤ w.heap.size) (t : Int) (h0 : 0 ≤ t) (h1 : now ≤ t) {vs b al : List Int} {code : Int} (hk : x.l ≤ x.k) (hR : IRow w x.A x.l vs) (A : Option Addr) (c : Nat) (hc : b.length ≤ c) (hV : Ever (fun k => k = g) w (fun W => Kd.C (Kd.int .u8) W A b.length b)) (hal : al.length ≤ 100000) (hp : ∃ K, PG.pdu_AnswerParse.f K x.f x.a x.c vs x.o x.n x.r b = some (al, code, 4)) : Calls Try.prog 14 #[.pointer (some ⟨g, 0, none⟩), .int .i64 t, .int .i64 x.u, .slice A b.length c] w fun e w' => e = .returned (.tuple #[.slice none 0 0, .int .i64 5]) ∧ IsM B w' g m ⟨wait, again, pause, t, tk, line, some x, times, last, rest⟩ ∧ Ext (Gm g m) w w' ∧ Keeps w w' := by
 have H := Aside0.mk h; have HB := Aside0.mk hB; have T0 := Aside0.mk h0; have T1 := Aside0.mk h1
 clear h hB h0 h1
 have HK0 := Aside0.mk hk; have HR0 := Aside0.mk hR; have HC := Aside0.mk hc; have HV := Aside0.mk hV; have HAL := Aside0.mk hal; have HP := Aside0.mk hp; clear hk hR hc hV hal hp
 have hu31 := Try.underlying31; have hu39 := Try.underlying39; have hu46 := Try.underlying46; have hu48 := Try.underlying48
 go_enter Try.func14, Try.ntmps14
 go_upto_region 4 with (go_at_call 31; refine (goon_f H.out HB.out t T0.out T1.out).mono ?_; rintro e w1 ⟨rfl, HI, HXg, HKg⟩; have HI := Aside0.mk HI; have HX := Aside0.mk HXg; have HBB : Aside0 (Ext (Gm g m) w w1) := ⟨extg HXg⟩; have HKG := Aside0.mk HKg; clear HXg HKg)
 clear H
 have HBW : Aside0 (B ≤ w1.heap.size) := ⟨Nat.le_trans HB.out HBB.out.size⟩
 have HV1 : Aside0 (Kd.C (Kd.int .u8) w1 A b.length b) := ⟨HV.out.at_ _ HX.out⟩; have HR1 : Aside0 (IRow w1 x.A x.l vs) := ⟨HKG.out.row HR0.out⟩
 obtain ⟨⟨vl, vo, hb, hl, ho⟩, ⟨f, n, hm, hf⟩⟩ := HI.out
 clear HI
 obtain ⟨go, rfl, hgo, bgo, nlo⟩ := ho
 have BK_g : Aside0 (w1.heap[g]? = some (.cells #[.int .i64 wait, .int .i64 again, .int .i64 pause, .int .i64 t, .int .i64 tk, vl, .pointer (some ⟨go, 0, none⟩), .int .i64 times, .int .i64 last, .map (some m)] 73 (0, 0))) := ⟨hb⟩
 have OB_l : Aside0 (OwnE ks (fun _ => False) 39 B w1 vl (line)) := ⟨hl⟩
 have MP_m := Aside0.mk hm; have HF := Aside0.mk hf
 have NE_l_g : Aside0 (∀ k, (vl).ownBlock = some k → k ≠ g) := ⟨ks_ne hl hb (by decide)⟩; have NE_l_m : Aside0 (∀ k, (vl).ownBlock = some k → k ≠ m) := ⟨ks_nm hl hm⟩; have NE_g_m : Aside0 (g ≠ m) := ⟨cell_nm hb hm⟩; have NE_m_g : Aside0 (m ≠ g) := ⟨fun e => NE_g_m.out e.symm⟩; have F_g : Aside0 (∀ k, k = g → Gm g m k ∨ w1.heap.size ≤ k) := ⟨fun k e => .inl (.inl e)⟩; have F_m : Aside0 (∀ k, k = m → Gm g m k ∨ w1.heap.size ≤ k) := ⟨fun k e => .inl (.inr e)⟩
 have BK_go : Aside0 (w1.heap[go]? = some (.cells #[.int .i64 x.t, .int .i64 x.u, .int .i64 x.f, .int .i64 x.a, .int .i64 x.c, .slice x.A x.l x.k, .int .i64 x.o, .int .i64 x.n, .int .i64 x.r] 39 (0, 0))) := ⟨hgo⟩; have BGO := Aside0.mk bgo; have NE_l_go : Aside0 (∀ k, (vl).ownBlock = some k → k ≠ go) := ⟨nlo⟩; have NE_go_g : Aside0 (go ≠ g) := ⟨blk_ne hgo hb (by decide)⟩; have NE_g_go : Aside0 (g ≠ go) := ⟨fun e => NE_go_g.out e.symm⟩; have NE_go_m : Aside0 (go ≠ m) := ⟨cell_nm hgo hm⟩; have NE_m_go : Aside0 (m ≠ go) := ⟨fun e => NE_go_m.out e.symm⟩; clear hgo bgo nlo
 clear hb hl hm hf
 have XT : Aside0 (Ext (Gm g m) w1 w1) := ⟨Ext.refl _ _⟩
 refine cl10_ BK_g.out ?_; intro lc1_0 lc1_1 lc1_2 lc1_3 lc1_4 lc1_5 lc1_6 lc1_7 lc1_8 lc1_9 lf1_0 lf1_1 lf1_2 lf1_3 lf1_4 lf1_5 lf1_6 lf1_7 lf1_8 lf1_9
 refine cl9_ BK_go.out ?_; intro lc2_0 lc2_1 lc2_2 lc2_3 lc2_4 lc2_5 lc2_6 lc2_7 lc2_8 lf2_0 lf2_1 lf2_2 lf2_3 lf2_4 lf2_5 lf2_6 lf2_7 lf2_8
 have KP : Aside0 (Keeps w1 w1) := ⟨fun _ _ _ h _ _ => h⟩
 go_wp2_with (first | (go_at_call 35; refine (parse_q HR1.out HK0.out HV1.out HC.out HP.out).mono ?_; rintro e w2 ⟨v, rfl, HR, HBc⟩; obtain ⟨A', k', rfl, hkc, hin⟩ := irow_R HR (by have := HAL.out; omega); have HKC := Aside0.mk hkc; clear HR hkc; replace OB_l := Aside0.mk (ks_mv OB_l.out (Ext.none_ HBc) (fun _ _ e => e)); replace KP := Aside0.mk (keeps_then KP.out HBc); clear lc1_0 lc1_1 lc1_2 lc1_3 lc1_4 lc1_5 lc1_6 lc1_7 lc1_8 lc1_9 lf1_0 lf1_1 lf1_2 lf1_3 lf1_4 lf1_5 lf1_6 lf1_7 lf1_8 lf1_9 lc2_0 lc2_1 lc2_2 lc2_3 lc2_4 lc2_5 lc2_6 lc2_7 lc2_8 lf2_0 lf2_1 lf2_2 lf2_3 lf2_4 lf2_5 lf2_6 lf2_7 lf2_8; replace BK_g := Aside0.mk (Ext.blk (Ext.none_ HBc) BK_g.out (fun e => e)); replace BK_go := Aside0.mk (Ext.blk (Ext.none_ HBc) BK_go.out (fun e => e)); replace MP_m := Aside0.mk (IsMap.ext MP_m.out (Ext.none_ HBc) (fun e => e)); replace XT := Aside0.mk (XT.out.stepB HBc); have IR_n : Aside0 (IRow w2 (A') (al.length) (al)) := ⟨hin⟩; clear hin HBc HV1 HR1; refine cl10_ BK_g.out ?_; intro lc3_0 lc3_1 lc3_2 lc3_3 lc3_4 lc3_5 lc3_6 lc3_7 lc3_8 lc3_9 lf3_0 lf3_1 lf3_2 lf3_3 lf3_4 lf3_5 lf3_6 lf3_7 lf3_8 lf3_9; refine cl9_ BK_go.out ?_; intro lc4_0 lc4_1 lc4_2 lc4_3 lc4_4 lc4_5 lc4_6 lc4_7 lc4_8 lf4_0 lf4_1 lf4_2 lf4_3 lf4_4 lf4_5 lf4_6 lf4_7 lf4_8) | ((with_reducible refine gate_dst (N := 11) rfl ?_); refine bx_ (N := 11) (cs := #[.slice none 0 0, .int .i64 0]) (t := 46) ?_; intro a hg w3 hbox HBc; have NE_l_a : Aside0 (∀ k, (vl).ownBlock = some k → k ≠ a) := ⟨fun k hk e => by have := OwnE.lt OB_l.out k hk; omega⟩; have NE_g_a : Aside0 (g ≠ a) := ⟨ne_born (blk_lt BK_g.out) hg⟩; have NE_a_g : Aside0 (a ≠ g) := ⟨fun e => NE_g_a.out e.symm⟩; have NE_go_a : Aside0 (go ≠ a) := ⟨ne_born (blk_lt BK_go.out) hg⟩; have NE_a_go : Aside0 (a ≠ go) := ⟨fun e => NE_go_a.out e.symm⟩; have NE_m_a : Aside0 (m ≠ a) := ⟨ne_born (IsMap.lt MP_m.out) hg⟩; have NE_a_m : Aside0 (a ≠ m) := ⟨fun e => NE_m_a.out e.symm⟩; have F_a : Aside0 (∀ k, k = a → (Gm g m) k ∨ w1.heap.size ≤ k) := ⟨fnew hg XT.out.size⟩; have RG_a : Aside0 (w1.heap.size ≤ a) := ⟨Nat.le_trans XT.out.size (Nat.le_of_eq hg.symm)⟩; have BG_a : Aside0 (B ≤ a) := ⟨Nat.le_trans HBW.out RG_a.out⟩; clear hg; replace OB_l := Aside0.mk (ks_mv OB_l.out (Ext.none_ HBc) (fun _ _ e => e)); replace IR_n := Aside0.mk (irow_below IR_n.out HBc); replace KP := Aside0.mk (keeps_then KP.out HBc); clear lc3_0 lc3_1 lc3_2 lc3_3 lc3_4 lc3_5 lc3_6 lc3_7 lc3_8 lc3_9 lf3_0 lf3_1 lf3_2 lf3_3 lf3_4 lf3_5 lf3_6 lf3_7 lf3_8 lf3_9 lc4_0 lc4_1 lc4_2 lc4_3 lc4_4 lc4_5 lc4_6 lc4_7 lc4_8 lf4_0 lf4_1 lf4_2 lf4_3 lf4_4 lf4_5 lf4_6 lf4_7 lf4_8; replace BK_g := Aside0.mk (Ext.blk (Ext.none_ HBc) BK_g.out (fun e => e)); replace BK_go := Aside0.mk (Ext.blk (Ext.none_ HBc) BK_go.out (fun e => e)); replace MP_m := Aside0.mk (IsMap.ext MP_m.out (Ext.none_ HBc) (fun e => e)); replace XT := Aside0.mk (XT.out.stepB HBc); have BK_a : Aside0 (w3.heap[a]? = some (.cells #[.slice none 0 0, .int .i64 0] 46 (0, 0))) := ⟨hbox⟩; clear hbox HBc; refine cl10_ BK_g.out ?_; intro lc5_0 lc5_1 lc5_2 lc5_3 lc5_4 lc5_5 lc5_6 lc5_7 lc5_8 lc5_9 lf5_0 lf5_1 lf5_2 lf5_3 lf5_4 lf5_5 lf5_6 lf5_7 lf5_8 lf5_9; refine cl9_ BK_go.out ?_; intro lc6_0 lc6_1 lc6_2 lc6_3 lc6_4 lc6_5 lc6_6 lc6_7 lc6_8 lf6_0 lf6_1 lf6_2 lf6_3 lf6_4 lf6_5 lf6_6 lf6_7 lf6_8; refine cl2_ BK_a.out ?_; intro lc7_0 lc7_1 lf7_0 lf7_1) | ((with_reducible refine gate_store (p := 11) rfl ?_); refine store_event (w1 := ?_) rfl (p := 11) rfl rfl ?hr ?_; rotate_left; (case hr => go_simp; rfl); intro w4 hw_; have hput : w4.heap[a]? = some (.cells #[.slice A' al.length k', .int .i64 code] 46 (0, 0)) := (by rw [hw_]; refine blk_put (cs := #[.slice A' al.length k', .int .i64 0]) ?_ 1 _ rfl; refine blk_put (cs := #[.slice none 0 0, .int .i64 0]) ?_ 0 _ rfl; exact BK_a.out); have HEc : Ext (fun k => k = a) w3 w4 := (by rw [hw_]; exact (((Ext.refl _ _).setg _).setg _)); clear hw_; replace OB_l := Aside0.mk (ks_mv OB_l.out HEc NE_l_a.out); replace IR_n := Aside0.mk (irow_set IR_n.out HEc BK_a.out (by decide)); replace KP := Aside0.mk (keeps_set KP.out HEc BK_a.out (.inr (.inr RG_a.out))); clear lc5_0 lc5_1 lc5_2 lc5_3 lc5_4 lc5_5 lc5_6 lc5_7 lc5_8 lc5_9 lf5_0 lf5_1 lf5_2 lf5_3 lf5_4 lf5_5 lf5_6 lf5_7 lf5_8 lf5_9 lc6_0 lc6_1 lc6_2 lc6_3 lc6_4 lc6_5 lc6_6 lc6_7 lc6_8 lf6_0 lf6_1 lf6_2 lf6_3 lf6_4 lf6_5 lf6_6 lf6_7 lf6_8 lc7_0 lc7_1 lf7_0 lf7_1; replace BK_g := Aside0.mk (Ext.blk HEc BK_g.out NE_g_a.out); replace BK_go := Aside0.mk (Ext.blk HEc BK_go.out NE_go_a.out); replace MP_m := Aside0.mk (IsMap.ext MP_m.out HEc NE_m_a.out); replace XT := Aside0.mk (XT.out.step HEc (F_a.out)); clear BK_a; have BK_a : Aside0 (w4.heap[a]? = some (.cells #[.slice A' al.length k', .int .i64 code] 46 (0, 0))) := ⟨hput⟩; clear hput HEc; refine cl10_ BK_g.out ?_; intro lc8_0 lc8_1 lc8_2 lc8_3 lc8_4 lc8_5 lc8_6 lc8_7 lc8_8 lc8_9 lf8_0 lf8_1 lf8_2 lf8_3 lf8_4 lf8_5 lf8_6 lf8_7 lf8_8 lf8_9; refine cl9_ BK_go.out ?_; intro lc9_0 lc9_1 lc9_2 lc9_3 lc9_4 lc9_5 lc9_6 lc9_7 lc9_8 lf9_0 lf9_1 lf9_2 lf9_3 lf9_4 lf9_5 lf9_6 lf9_7 lf9_8; refine cl2_ BK_a.out ?_; intro lc10_0 lc10_1 lf10_0 lf10_1))
 go_ret2
 exact ⟨rfl, ⟨⟨_, _, BK_g.out, OB_l.out, ⟨go, rfl, BK_go.out, BGO.out, NE_l_go.out⟩⟩, ⟨_, _, MP_m.out, HF.out⟩⟩, HBB.out.trans XT.out, HKG.out.trans KP.out⟩
set_option maxHeartbeats 4000000 in
set_option maxRecDepth 100000 in
theorem came_go {B : Nat} {w : World} {g m : Nat} {wait again pause now tk times last : Int} {rest : Int → Int} {line : List SV} {x : SV} (h : IsM B w g m ⟨wait, again, pause, now, tk, line, some x, times, last, rest⟩) (hB : B ≤ w.heap.size) (t : Int) (h0 : 0 ≤ t) (h1 : now ≤ t) {vs b al : List Int} {code : Int} (hk : x.l ≤ x.k) (hR : IRow w x.A x.l vs) (A : Option Addr) (c : Nat) (hc : b.length ≤ c) (hV : Ever (fun k => k = g) w (fun W => Kd.C (Kd.int .u8) W A b.length b)) (hal : al.length ≤ 100000) (hp : ∃ K, PG.pdu_AnswerParse.f K x.f x.a x.c vs x.o x.n x.r b = some (al, code, 0)) : Calls Try.prog 14 #[.pointer (some ⟨g, 0, none⟩), .int .i64 t, .int .i64 x.u, .slice A b.length c] w fun e w' => ∃ va, e = .returned (.tuple #[va, .int .i64 0]) ∧ CameR w' x.t al code va ∧ IsM B w' g m ⟨wait, again, pause, t, tk, line, none, times, last, rest⟩ ∧ Ext (Gm g m) w w' ∧ Keeps w w' := by
 have H := Aside0.mk h; have HB := Aside0.mk hB; have T0 := Aside0.mk h0; have T1 := Aside0.mk h1
 clear h hB h0 h1
 have HK0 := Aside0.mk hk; have HR0 := Aside0.mk hR; have HC := Aside0.mk hc; have HV := Aside0.mk hV; have HAL := Aside0.mk hal; have HP := Aside0.mk hp; clear hk hR hc hV hal hp
 have hu31 := Try.underlying31; have hu39 := Try.underlying39; have hu46 := Try.underlying46; have hu48 := Try.underlying48
 go_enter Try.func14, Try.ntmps14
 go_upto_region 4 with (go_at_call 31; refine (goon_f H.out HB.out t T0.out T1.out).mono ?_; rintro e w1 ⟨rfl, HI, HXg, HKg⟩; have HI := Aside0.mk HI; have HX := Aside0.mk HXg; have HBB : Aside0 (Ext (Gm g m) w w1) := ⟨extg HXg⟩; have HKG := Aside0.mk HKg; clear HXg HKg)
 clear H
 have HBW : Aside0 (B ≤ w1.heap.size) := ⟨Nat.le_trans HB.out HBB.out.size⟩
 have HV1 : Aside0 (Kd.C (Kd.int .u8) w1 A b.length b) := ⟨HV.out.at_ _ HX.out⟩; have HR1 : Aside0 (IRow w1 x.A x.l vs) := ⟨HKG.out.row HR0.out⟩
 obtain ⟨⟨vl, vo, hb, hl, ho⟩, ⟨f, n, hm, hf⟩⟩ := HI.out
 clear HI
 obtain ⟨go, rfl, hgo, bgo, nlo⟩ := ho
 have BK_g : Aside0 (w1.heap[g]? = some (.cells #[.int .i64 wait, .int .i64 again, .int .i64 pause, .int .i64 t, .int .i64 tk, vl, .pointer (some ⟨go, 0, none⟩), .int .i64 times, .int .i64 last, .map (some m)] 73 (0, 0))) := ⟨hb⟩
 have OB_l : Aside0 (OwnE ks (fun _ => False) 39 B w1 vl (line)) := ⟨hl⟩
 have MP_m := Aside0.mk hm; have HF := Aside0.mk hf
 have NE_l_g : Aside0 (∀ k, (vl).ownBlock = some k → k ≠ g) := ⟨ks_ne hl hb (by decide)⟩; have NE_l_m : Aside0 (∀ k, (vl).ownBlock = some k → k ≠ m) := ⟨ks_nm hl hm⟩; have NE_g_m : Aside0 (g ≠ m) := ⟨cell_nm hb hm⟩; have NE_m_g : Aside0 (m ≠ g) := ⟨fun e => NE_g_m.out e.symm⟩; have F_g : Aside0 (∀ k, k = g → Gm g m k ∨ w1.heap.size ≤ k) := ⟨fun k e => .inl (.inl e)⟩; have F_m : Aside0 (∀ k, k = m → Gm g m k ∨ w1.heap.size ≤ k) := ⟨fun k e => .inl (.inr e)⟩
 have BK_go : Aside0 (w1.heap[go]? = some (.cells #[.int .i64 x.t, .int .i64 x.u, .int .i64 x.f, .int .i64 x.a, .int .i64 x.c, .slice x.A x.l x.k, .int .i64 x.o, .int .i64 x.n, .int .i64 x.r] 39 (0, 0))) := ⟨hgo⟩; have BGO := Aside0.mk bgo; have NE_l_go : Aside0 (∀ k, (vl).ownBlock = some k → k ≠ go) := ⟨nlo⟩; have NE_go_g : Aside0 (go ≠ g) := ⟨blk_ne hgo hb (by decide)⟩; have NE_g_go : Aside0 (g ≠ go) := ⟨fun e => NE_go_g.out e.symm⟩; have NE_go_m : Aside0 (go ≠ m) := ⟨cell_nm hgo hm⟩; have NE_m_go : Aside0 (m ≠ go) := ⟨fun e => NE_go_m.out e.symm⟩; clear hgo bgo nlo
 clear hb hl hm hf
 have XT : Aside0 (Ext (Gm g m) w1 w1) := ⟨Ext.refl _ _⟩
 refine cl10_ BK_g.out ?_; intro lc1_0 lc1_1 lc1_2 lc1_3 lc1_4 lc1_5 lc1_6 lc1_7 lc1_8 lc1_9 lf1_0 lf1_1 lf1_2 lf1_3 lf1_4 lf1_5 lf1_6 lf1_7 lf1_8 lf1_9
 refine cl9_ BK_go.out ?_; intro lc2_0 lc2_1 lc2_2 lc2_3 lc2_4 lc2_5 lc2_6 lc2_7 lc2_8 lf2_0 lf2_1 lf2_2 lf2_3 lf2_4 lf2_5 lf2_6 lf2_7 lf2_8
 have KP : Aside0 (Keeps w1 w1) := ⟨fun _ _ _ h _ _ => h⟩
 go_upto_region 9 with (first | (go_at_call 35; refine (parse_q HR1.out HK0.out HV1.out HC.out HP.out).mono ?_; rintro e w2 ⟨v, rfl, HR, HBc⟩; obtain ⟨A', k', rfl, hkc, hin⟩ := irow_R HR (by have := HAL.out; omega); have HKC := Aside0.mk hkc; clear HR hkc; replace OB_l := Aside0.mk (ks_mv OB_l.out (Ext.none_ HBc) (fun _ _ e => e)); replace KP := Aside0.mk (keeps_then KP.out HBc); clear lc1_0 lc1_1 lc1_2 lc1_3 lc1_4 lc1_5 lc1_6 lc1_7 lc1_8 lc1_9 lf1_0 lf1_1 lf1_2 lf1_3 lf1_4 lf1_5 lf1_6 lf1_7 lf1_8 lf1_9 lc2_0 lc2_1 lc2_2 lc2_3 lc2_4 lc2_5 lc2_6 lc2_7 lc2_8 lf2_0 lf2_1 lf2_2 lf2_3 lf2_4 lf2_5 lf2_6 lf2_7 lf2_8; replace BK_g := Aside0.mk (Ext.blk (Ext.none_ HBc) BK_g.out (fun e => e)); replace BK_go := Aside0.mk (Ext.blk (Ext.none_ HBc) BK_go.out (fun e => e)); replace MP_m := Aside0.mk (IsMap.ext MP_m.out (Ext.none_ HBc) (fun e => e)); replace XT := Aside0.mk (XT.out.stepB HBc); have IR_n : Aside0 (IRow w2 (A') (al.length) (al)) := ⟨hin⟩; clear hin HBc HV1 HR1; refine cl10_ BK_g.out ?_; intro lc3_0 lc3_1 lc3_2 lc3_3 lc3_4 lc3_5 lc3_6 lc3_7 lc3_8 lc3_9 lf3_0 lf3_1 lf3_2 lf3_3 lf3_4 lf3_5 lf3_6 lf3_7 lf3_8 lf3_9; refine cl9_ BK_go.out ?_; intro lc4_0 lc4_1 lc4_2 lc4_3 lc4_4 lc4_5 lc4_6 lc4_7 lc4_8 lf4_0 lf4_1 lf4_2 lf4_3 lf4_4 lf4_5 lf4_6 lf4_7 lf4_8) | ((with_reducible refine gate_dst (N := 11) rfl ?_); refine bx_ (N := 11) (cs := #[.slice none 0 0, .int .i64 0]) (t := 46) ?_; intro a hg w3 hbox HBc; have NE_l_a : Aside0 (∀ k, (vl).ownBlock = some k → k ≠ a) := ⟨fun k hk e => by have := OwnE.lt OB_l.out k hk; omega⟩; have NE_g_a : Aside0 (g ≠ a) := ⟨ne_born (blk_lt BK_g.out) hg⟩; have NE_a_g : Aside0 (a ≠ g) := ⟨fun e => NE_g_a.out e.symm⟩; have NE_go_a : Aside0 (go ≠ a) := ⟨ne_born (blk_lt BK_go.out) hg⟩; have NE_a_go : Aside0 (a ≠ go) := ⟨fun e => NE_go_a.out e.symm⟩; have NE_m_a : Aside0 (m ≠ a) := ⟨ne_born (IsMap.lt MP_m.out) hg⟩; have NE_a_m : Aside0 (a ≠ m) := ⟨fun e => NE_m_a.out e.symm⟩; have F_a : Aside0 (∀ k, k = a → (Gm g m) k ∨ w1.heap.size ≤ k) := ⟨fnew hg XT.out.size⟩; have RG_a : Aside0 (w1.heap.size ≤ a) := ⟨Nat.le_trans XT.out.size (Nat.le_of_eq hg.symm)⟩; have BG_a : Aside0 (B ≤ a) := ⟨Nat.le_trans HBW.out RG_a.out⟩; clear hg; replace OB_l := Aside0.mk (ks_mv OB_l.out (Ext.none_ HBc) (fun _ _ e => e)); replace IR_n := Aside0.mk (irow_below IR_n.out HBc); replace KP := Aside0.mk (keeps_then KP.out HBc); clear lc3_0 lc3_1 lc3_2 lc3_3 lc3_4 lc3_5 lc3_6 lc3_7 lc3_8 lc3_9 lf3_0 lf3_1 lf3_2 lf3_3 lf3_4 lf3_5 lf3_6 lf3_7 lf3_8 lf3_9 lc4_0 lc4_1 lc4_2 lc4_3 lc4_4 lc4_5 lc4_6 lc4_7 lc4_8 lf4_0 lf4_1 lf4_2 lf4_3 lf4_4 lf4_5 lf4_6 lf4_7 lf4_8; replace BK_g := Aside0.mk (Ext.blk (Ext.none_ HBc) BK_g.out (fun e => e)); replace BK_go := Aside0.mk (Ext.blk (Ext.none_ HBc) BK_go.out (fun e => e)); replace MP_m := Aside0.mk (IsMap.ext MP_m.out (Ext.none_ HBc) (fun e => e)); replace XT := Aside0.mk (XT.out.stepB HBc); have BK_a : Aside0 (w3.heap[a]? = some (.cells #[.slice none 0 0, .int .i64 0] 46 (0, 0))) := ⟨hbox⟩; clear hbox HBc; refine cl10_ BK_g.out ?_; intro lc5_0 lc5_1 lc5_2 lc5_3 lc5_4 lc5_5 lc5_6 lc5_7 lc5_8 lc5_9 lf5_0 lf5_1 lf5_2 lf5_3 lf5_4 lf5_5 lf5_6 lf5_7 lf5_8 lf5_9; refine cl9_ BK_go.out ?_; intro lc6_0 lc6_1 lc6_2 lc6_3 lc6_4 lc6_5 lc6_6 lc6_7 lc6_8 lf6_0 lf6_1 lf6_2 lf6_3 lf6_4 lf6_5 lf6_6 lf6_7 lf6_8; refine cl2_ BK_a.out ?_; intro lc7_0 lc7_1 lf7_0 lf7_1) | ((with_reducible refine gate_store (p := 11) rfl ?_); refine store_event (w1 := ?_) rfl (p := 11) rfl rfl ?hr ?_; rotate_left; (case hr => go_simp; rfl); intro w4 hw_; have hput : w4.heap[a]? = some (.cells #[.slice A' al.length k', .int .i64 code] 46 (0, 0)) := (by rw [hw_]; refine blk_put (cs := #[.slice A' al.length k', .int .i64 0]) ?_ 1 _ rfl; refine blk_put (cs := #[.slice none 0 0, .int .i64 0]) ?_ 0 _ rfl; exact BK_a.out); have HEc : Ext (fun k => k = a) w3 w4 := (by rw [hw_]; exact (((Ext.refl _ _).setg _).setg _)); clear hw_; replace OB_l := Aside0.mk (ks_mv OB_l.out HEc NE_l_a.out); replace IR_n := Aside0.mk (irow_set IR_n.out HEc BK_a.out (by decide)); replace KP := Aside0.mk (keeps_set KP.out HEc BK_a.out (.inr (.inr RG_a.out))); clear lc5_0 lc5_1 lc5_2 lc5_3 lc5_4 lc5_5 lc5_6 lc5_7 lc5_8 lc5_9 lf5_0 lf5_1 lf5_2 lf5_3 lf5_4 lf5_5 lf5_6 lf5_7 lf5_8 lf5_9 lc6_0 lc6_1 lc6_2 lc6_3 lc6_4 lc6_5 lc6_6 lc6_7 lc6_8 lf6_0 lf6_1 lf6_2 lf6_3 lf6_4 lf6_5 lf6_6 lf6_7 lf6_8 lc7_0 lc7_1 lf7_0 lf7_1; replace BK_g := Aside0.mk (Ext.blk HEc BK_g.out NE_g_a.out); replace BK_go := Aside0.mk (Ext.blk HEc BK_go.out NE_go_a.out); replace MP_m := Aside0.mk (IsMap.ext MP_m.out HEc NE_m_a.out); replace XT := Aside0.mk (XT.out.step HEc (F_a.out)); clear BK_a; have BK_a : Aside0 (w4.heap[a]? = some (.cells #[.slice A' al.length k', .int .i64 code] 46 (0, 0))) := ⟨hput⟩; clear hput HEc; refine cl10_ BK_g.out ?_; intro lc8_0 lc8_1 lc8_2 lc8_3 lc8_4 lc8_5 lc8_6 lc8_7 lc8_8 lc8_9 lf8_0 lf8_1 lf8_2 lf8_3 lf8_4 lf8_5 lf8_6 lf8_7 lf8_8 lf8_9; refine cl9_ BK_go.out ?_; intro lc9_0 lc9_1 lc9_2 lc9_3 lc9_4 lc9_5 lc9_6 lc9_7 lc9_8 lf9_0 lf9_1 lf9_2 lf9_3 lf9_4 lf9_5 lf9_6 lf9_7 lf9_8; refine cl2_ BK_a.out ?_; intro lc10_0 lc10_1 lf10_0 lf10_1))
 clear lc8_0 lc8_1 lc8_2 lc8_3 lc8_4 lc8_5 lc8_6 lc8_7 lc8_8 lc8_9 lf8_0 lf8_1 lf8_2 lf8_3 lf8_4 lf8_5 lf8_6 lf8_7 lf8_8 lf8_9 lc9_0 lc9_1 lc9_2 lc9_3 lc9_4 lc9_5 lc9_6 lc9_7 lc9_8 lf9_0 lf9_1 lf9_2 lf9_3 lf9_4 lf9_5 lf9_6 lf9_7 lf9_8 lc10_0 lc10_1 lf10_0 lf10_1
 refine start_ (n := 11) (S := fun W => W.cell? ⟨g, 6, none⟩ = some (.pointer (some ⟨go, 0, none⟩)) ∧ W.cell? ⟨go, 0, none⟩ = some (.int .i64 x.t) ∧ W.cell? ⟨a, 0, none⟩ = some (.slice A' al.length k') ∧ W.cell? ⟨a, 1, none⟩ = some (.int .i64 code)) (ds := [10]) (fl 11 0) (by kernel_rfl) rfl (by kernel_rfl) ?_ (fun hHeld => ?_)
 ·exact ⟨(blk_cell (bk_ BK_g) 6).trans rfl, (blk_cell (bk_ BK_go) 0).trans rfl, (blk_cell (bk_ BK_a) 0).trans rfl, (blk_cell (bk_ BK_a) 1).trans rfl⟩
 refine pu_ 0 50 (fl 11 1) rfl rfl (by kernel_rfl) ?_
 refine pu_ 1 51 (fl 11 3) rfl rfl (by kernel_rfl) ?_
 refine pu_ 2 52 (fl 11 7) rfl rfl (by kernel_rfl) ?_
 refine tk_ 3 53 (fl 11 15) rfl rfl (by kernel_rfl) hHeld ?_
 refine pu_ 4 54 (fl 11 31) rfl rfl (by kernel_rfl) ?_
 refine pu_ 5 55 (fl 11 63) rfl rfl (by kernel_rfl) ?_
 refine tk_ 6 56 (fl 11 127) rfl rfl (by kernel_rfl) hHeld ?_
 refine tk_ 7 57 (fl 11 255) rfl rfl (by kernel_rfl) hHeld ?_
 refine pu_ 8 58 (fl 11 511) rfl rfl (by kernel_rfl) ?_
 refine one_ (i := 9) (N := some 13) (fl 11 1023) rfl rfl (by kernel_rfl) (by decide) (fun K hK => ?_)
 refine box_step (by rfl) (N := 13) rfl (cs := #[.int .i64 0, .slice none 0 0, .int .i64 0, .bool false]) (t := 48) ?hr ?_
 case hr => first | (go_simp; done) | (go_simp; rfl)
 intro d hg_ w5 hbox HBc
 have hg : d = w4.heap.size := hg_
 clear hg_
 have HBd : Below w4.heap.size w4 w5 := below_step (by repeat (first | exact Below.refl _ _ | apply pw_below_drewN | apply below_drew1)) HBc
 clear HBc
 have HBc := HBd; clear HBd
 have NE_l_d : Aside0 (∀ k, (vl).ownBlock = some k → k ≠ d) := ⟨fun k hk e => by have := OwnE.lt OB_l.out k hk; omega⟩
 have NE_g_d : Aside0 (g ≠ d) := ⟨ne_born (blk_lt BK_g.out) hg⟩
 have NE_d_g : Aside0 (d ≠ g) := ⟨fun e => NE_g_d.out e.symm⟩
 have NE_go_d : Aside0 (go ≠ d) := ⟨ne_born (blk_lt BK_go.out) hg⟩
 have NE_d_go : Aside0 (d ≠ go) := ⟨fun e => NE_go_d.out e.symm⟩
 have NE_a_d : Aside0 (a ≠ d) := ⟨ne_born (blk_lt BK_a.out) hg⟩
 have NE_d_a : Aside0 (d ≠ a) := ⟨fun e => NE_a_d.out e.symm⟩
 have NE_m_d : Aside0 (m ≠ d) := ⟨ne_born (IsMap.lt MP_m.out) hg⟩
 have NE_d_m : Aside0 (d ≠ m) := ⟨fun e => NE_m_d.out e.symm⟩
 have F_d : Aside0 (∀ k, k = d → (Gm g m) k ∨ w1.heap.size ≤ k) := ⟨fnew hg XT.out.size⟩
 have RG_d : Aside0 (w1.heap.size ≤ d) := ⟨Nat.le_trans XT.out.size (Nat.le_of_eq hg.symm)⟩
 have BG_d : Aside0 (B ≤ d) := ⟨Nat.le_trans HBW.out RG_d.out⟩
 clear hg
 replace OB_l := Aside0.mk (ks_mv OB_l.out (Ext.none_ HBc) (fun _ _ e => e))
 replace IR_n := Aside0.mk (irow_below IR_n.out HBc)
 replace KP := Aside0.mk (keeps_then KP.out HBc)
 replace BK_g := Aside0.mk (Ext.blk (Ext.none_ HBc) BK_g.out (fun e => e))
 replace BK_go := Aside0.mk (Ext.blk (Ext.none_ HBc) BK_go.out (fun e => e))
 replace BK_a := Aside0.mk (Ext.blk (Ext.none_ HBc) BK_a.out (fun e => e))
 replace MP_m := Aside0.mk (IsMap.ext MP_m.out (Ext.none_ HBc) (fun e => e))
 replace XT := Aside0.mk (XT.out.stepB HBc)
 have BK_d : Aside0 (w5.heap[d]? = some (.cells #[.int .i64 0, .slice none 0 0, .int .i64 0, .bool false] 48 (0, 0))) := ⟨hbox⟩
 clear hbox HBc
 refine hK.out _ _ ?_ (fun hHeld => ?_)
 ·exact ⟨(blk_cell (bk_ BK_g) 6).trans rfl, (blk_cell (bk_ BK_go) 0).trans rfl, (blk_cell (bk_ BK_a) 0).trans rfl, (blk_cell (bk_ BK_a) 1).trans rfl⟩
 clear hK K
 refine norm_ (a' := ?_) ?_ ?_
 rotate_left
 ·show Act.put _ (some 13) _ = _
  simp only [Act.put, List.setIfInBounds_toArray, List.set_cons_zero, List.set_cons_succ, i64_w, i32_w]
  rfl
 refine last_ (i := 10) (N := none) (fl 11 2047) rfl rfl (by kernel_rfl) (by decide) (fun K hK => ?_)
 refine cl4_ BK_d.out ?_; intro lc11_0 lc11_1 lc11_2 lc11_3 lf11_0 lf11_1 lf11_2 lf11_3
 refine skip_ (w1 := ?_) (by rfl) rfl ?_ ?_
 rotate_left
 ·go_simp
  rfl
 clear lc11_0 lc11_1 lc11_2 lc11_3 lf11_0 lf11_1 lf11_2 lf11_3
 generalize hw_ : World.setCell (World.setCell (World.setCell (World.setCell w5 ⟨d, 0, none⟩ _) ⟨d, 1, none⟩ _) ⟨d, 2, none⟩ _) ⟨d, 3, none⟩ _ = w6
 have hput : w6.heap[d]? = some (.cells #[.int .i64 (x.t), .slice A' al.length k', .int .i64 code, .bool false] 48 (0, 0)) := (by rw [← hw_]; refine blk_put (cs := #[.int .i64 (x.t), .slice A' al.length k', .int .i64 code, .bool false]) ?_ 3 _ rfl; refine blk_put (cs := #[.int .i64 (x.t), .slice A' al.length k', .int .i64 0, .bool false]) ?_ 2 _ rfl; refine blk_put (cs := #[.int .i64 (x.t), .slice none 0 0, .int .i64 0, .bool false]) ?_ 1 _ rfl; refine blk_put (cs := #[.int .i64 0, .slice none 0 0, .int .i64 0, .bool false]) ?_ 0 _ rfl; exact BK_d.out)
 have HEc : Ext (fun k => k = d) w5 w6 := (by rw [← hw_]; exact ((((Ext.refl _ _).setg _).setg _).setg _).setg _)
 clear hw_
 replace OB_l := Aside0.mk (ks_mv OB_l.out HEc NE_l_d.out)
 replace IR_n := Aside0.mk (irow_set IR_n.out HEc BK_d.out (by decide))
 replace KP := Aside0.mk (keeps_set KP.out HEc BK_d.out (.inr (.inr RG_d.out)))
 replace BK_g := Aside0.mk (Ext.blk HEc BK_g.out NE_g_d.out)
 replace BK_go := Aside0.mk (Ext.blk HEc BK_go.out NE_go_d.out)
 replace BK_a := Aside0.mk (Ext.blk HEc BK_a.out NE_a_d.out)
 replace MP_m := Aside0.mk (IsMap.ext MP_m.out HEc NE_m_d.out)
 replace XT := Aside0.mk (XT.out.step HEc (F_d.out))
 clear BK_d
 have BK_d : Aside0 (w6.heap[d]? = some (.cells #[.int .i64 (x.t), .slice A' al.length k', .int .i64 code, .bool false] 48 (0, 0))) := ⟨hput⟩
 clear hput HEc
 refine hK.out _ _ ?_
 clear hK K
 refine done_ (by kernel_rfl) ?_
 refine cl10_ BK_g.out ?_; intro lc12_0 lc12_1 lc12_2 lc12_3 lc12_4 lc12_5 lc12_6 lc12_7 lc12_8 lc12_9 lf12_0 lf12_1 lf12_2 lf12_3 lf12_4 lf12_5 lf12_6 lf12_7 lf12_8 lf12_9
 refine cl9_ BK_go.out ?_; intro lc13_0 lc13_1 lc13_2 lc13_3 lc13_4 lc13_5 lc13_6 lc13_7 lc13_8 lf13_0 lf13_1 lf13_2 lf13_3 lf13_4 lf13_5 lf13_6 lf13_7 lf13_8
 refine cl2_ BK_a.out ?_; intro lc14_0 lc14_1 lf14_0 lf14_1
 refine cl4_ BK_d.out ?_; intro lc15_0 lc15_1 lc15_2 lc15_3 lf15_0 lf15_1 lf15_2 lf15_3
 go_wp2_with (first | ((with_reducible refine gate_store (p := 61) rfl ?_); refine store_event (w1 := ?_) rfl (p := 61) rfl rfl ?hr ?_; rotate_left; (case hr => go_simp; rfl); intro w7 hw_; obtain ⟨hput, HEc⟩ := put1 (cs' := #[.int .i64 wait, .int .i64 again, .int .i64 pause, .int .i64 t, .int .i64 tk, vl, .pointer none, .int .i64 times, .int .i64 last, .map (some m)]) hw_ BK_g.out rfl; clear hw_; replace OB_l := Aside0.mk (ks_mv OB_l.out HEc NE_l_g.out); replace IR_n := Aside0.mk (irow_set IR_n.out HEc BK_g.out (by decide)); replace KP := Aside0.mk (keeps_set KP.out HEc BK_g.out (.inl rfl)); clear lc12_0 lc12_1 lc12_2 lc12_3 lc12_4 lc12_5 lc12_6 lc12_7 lc12_8 lc12_9 lf12_0 lf12_1 lf12_2 lf12_3 lf12_4 lf12_5 lf12_6 lf12_7 lf12_8 lf12_9 lc13_0 lc13_1 lc13_2 lc13_3 lc13_4 lc13_5 lc13_6 lc13_7 lc13_8 lf13_0 lf13_1 lf13_2 lf13_3 lf13_4 lf13_5 lf13_6 lf13_7 lf13_8 lc14_0 lc14_1 lf14_0 lf14_1 lc15_0 lc15_1 lc15_2 lc15_3 lf15_0 lf15_1 lf15_2 lf15_3; replace BK_go := Aside0.mk (Ext.blk HEc BK_go.out NE_go_g.out); replace BK_a := Aside0.mk (Ext.blk HEc BK_a.out NE_a_g.out); replace BK_d := Aside0.mk (Ext.blk HEc BK_d.out NE_d_g.out); replace MP_m := Aside0.mk (IsMap.ext MP_m.out HEc NE_m_g.out); replace XT := Aside0.mk (XT.out.step HEc (F_g.out)); clear BK_g; have BK_g : Aside0 (w7.heap[g]? = some (.cells #[.int .i64 wait, .int .i64 again, .int .i64 pause, .int .i64 t, .int .i64 tk, vl, .pointer none, .int .i64 times, .int .i64 last, .map (some m)] 73 (0, 0))) := ⟨hput⟩; clear hput HEc; refine cl10_ BK_g.out ?_; intro lc16_0 lc16_1 lc16_2 lc16_3 lc16_4 lc16_5 lc16_6 lc16_7 lc16_8 lc16_9 lf16_0 lf16_1 lf16_2 lf16_3 lf16_4 lf16_5 lf16_6 lf16_7 lf16_8 lf16_9; refine cl9_ BK_go.out ?_; intro lc17_0 lc17_1 lc17_2 lc17_3 lc17_4 lc17_5 lc17_6 lc17_7 lc17_8 lf17_0 lf17_1 lf17_2 lf17_3 lf17_4 lf17_5 lf17_6 lf17_7 lf17_8; refine cl2_ BK_a.out ?_; intro lc18_0 lc18_1 lf18_0 lf18_1; refine cl4_ BK_d.out ?_; intro lc19_0 lc19_1 lc19_2 lc19_3 lf19_0 lf19_1 lf19_2 lf19_3) | ((with_reducible refine gate_dst (N := 63) rfl ?_); refine bs_ev (N := 63) ?hg ?hd (cs := #[.int .i64 (x.t), .slice A' al.length k', .int .i64 code, .bool false]) (t := 48) (n := 1) ?hr ?_; (case hd => rfl); (case hg => rfl); (case hr => first | (go_simp; done) | (go_simp; rfl)); intro gd hg w8 hbox HBc; have NE_l_gd : Aside0 (∀ k, (vl).ownBlock = some k → k ≠ gd) := ⟨fun k hk e => by have := OwnE.lt OB_l.out k hk; omega⟩; have NE_g_gd : Aside0 (g ≠ gd) := ⟨ne_born (blk_lt BK_g.out) hg⟩; have NE_gd_g : Aside0 (gd ≠ g) := ⟨fun e => NE_g_gd.out e.symm⟩; have NE_go_gd : Aside0 (go ≠ gd) := ⟨ne_born (blk_lt BK_go.out) hg⟩; have NE_gd_go : Aside0 (gd ≠ go) := ⟨fun e => NE_go_gd.out e.symm⟩; have NE_a_gd : Aside0 (a ≠ gd) := ⟨ne_born (blk_lt BK_a.out) hg⟩; have NE_gd_a : Aside0 (gd ≠ a) := ⟨fun e => NE_a_gd.out e.symm⟩; have NE_d_gd : Aside0 (d ≠ gd) := ⟨ne_born (blk_lt BK_d.out) hg⟩; have NE_gd_d : Aside0 (gd ≠ d) := ⟨fun e => NE_d_gd.out e.symm⟩; have NE_m_gd : Aside0 (m ≠ gd) := ⟨ne_born (IsMap.lt MP_m.out) hg⟩; have NE_gd_m : Aside0 (gd ≠ m) := ⟨fun e => NE_m_gd.out e.symm⟩; have F_gd : Aside0 (∀ k, k = gd → (Gm g m) k ∨ w1.heap.size ≤ k) := ⟨fnew hg XT.out.size⟩; have RG_gd : Aside0 (w1.heap.size ≤ gd) := ⟨Nat.le_trans XT.out.size (Nat.le_of_eq hg.symm)⟩; have BG_gd : Aside0 (B ≤ gd) := ⟨Nat.le_trans HBW.out RG_gd.out⟩; clear hg; replace OB_l := Aside0.mk (ks_mv OB_l.out (Ext.none_ HBc) (fun _ _ e => e)); replace IR_n := Aside0.mk (irow_below IR_n.out HBc); replace KP := Aside0.mk (keeps_then KP.out HBc); clear lc16_0 lc16_1 lc16_2 lc16_3 lc16_4 lc16_5 lc16_6 lc16_7 lc16_8 lc16_9 lf16_0 lf16_1 lf16_2 lf16_3 lf16_4 lf16_5 lf16_6 lf16_7 lf16_8 lf16_9 lc17_0 lc17_1 lc17_2 lc17_3 lc17_4 lc17_5 lc17_6 lc17_7 lc17_8 lf17_0 lf17_1 lf17_2 lf17_3 lf17_4 lf17_5 lf17_6 lf17_7 lf17_8 lc18_0 lc18_1 lf18_0 lf18_1 lc19_0 lc19_1 lc19_2 lc19_3 lf19_0 lf19_1 lf19_2 lf19_3; replace BK_g := Aside0.mk (Ext.blk (Ext.none_ HBc) BK_g.out (fun e => e)); replace BK_go := Aside0.mk (Ext.blk (Ext.none_ HBc) BK_go.out (fun e => e)); replace BK_a := Aside0.mk (Ext.blk (Ext.none_ HBc) BK_a.out (fun e => e)); replace BK_d := Aside0.mk (Ext.blk (Ext.none_ HBc) BK_d.out (fun e => e)); replace MP_m := Aside0.mk (IsMap.ext MP_m.out (Ext.none_ HBc) (fun e => e)); replace XT := Aside0.mk (XT.out.stepB HBc); have BK_gd : Aside0 (w8.heap[gd]? = some (.cells #[.int .i64 (x.t), .slice A' al.length k', .int .i64 code, .bool false] 48 (0, 0))) := ⟨hbox⟩; clear hbox HBc))
 go_ret2
 exact ⟨_, rfl, ⟨gd, A', k', rfl, HKC.out, BK_gd.out, IR_n.out⟩, ⟨⟨_, _, BK_g.out, OB_l.out, rfl⟩, ⟨_, _, MP_m.out, HF.out⟩⟩, HBB.out.trans XT.out, HKG.out.trans KP.out⟩
set_option maxHeartbeats 4000000 in
set_option maxRecDepth 100000 in
theorem goon_bad {B : Nat} {w : World} {g m : Nat} {wait again pause now tk times last : Int} {line : List (SV)} {rest : Int → Int} {out : Option SV} (h : IsM B w g m ⟨wait, again, pause, now, tk, line, out, times, last, rest⟩) (hB : B ≤ w.heap.size) (t : Int) (h0 : t < 0 ∨ t < now) : Calls Try.prog 31 #[.pointer (some ⟨g, 0, none⟩), .int .i64 t] w fun e w' => e = .returned (.int .i64 1) ∧ w = w' := by
 by_cases hz : t < 0
 ·have q0 : decide (t < 0) = true := decide_eq_true hz
  clear h0 hz
  have HBW := Aside0.mk hB
  obtain ⟨⟨vl, vo, hb, hl, ho⟩, ⟨f, n, hm, hf⟩⟩ := h
  have BK_g : Aside0 (w.heap[g]? = some (.cells #[.int .i64 wait, .int .i64 again, .int .i64 pause, .int .i64 now, .int .i64 tk, vl, vo, .int .i64 times, .int .i64 last, .map (some m)] 73 (0, 0))) := ⟨hb⟩
  have OB_l : Aside0 (OwnE ks (fun _ => False) 39 B w vl (line)) := ⟨hl⟩
  have MP_m := Aside0.mk hm; have HF := Aside0.mk hf
  have NE_l_g : Aside0 (∀ k, (vl).ownBlock = some k → k ≠ g) := ⟨ks_ne hl hb (by decide)⟩; have NE_l_m : Aside0 (∀ k, (vl).ownBlock = some k → k ≠ m) := ⟨ks_nm hl hm⟩; have NE_g_m : Aside0 (g ≠ m) := ⟨cell_nm hb hm⟩; have NE_m_g : Aside0 (m ≠ g) := ⟨fun e => NE_g_m.out e.symm⟩; have F_g : Aside0 (∀ k, k = g → Mm B g m k ∨ w.heap.size ≤ k) := ⟨fun k e => .inl (.inl e)⟩; have F_m : Aside0 (∀ k, k = m → Mm B g m k ∨ w.heap.size ≤ k) := ⟨fun k e => .inl (.inr (.inl e))⟩
  have HO : Aside0 (IsOut B w vl vo out) := ⟨ho⟩; clear ho
  clear hb hl hm hf hB
  have XT : Aside0 (Ext (Mm B g m) w w) := ⟨Ext.refl _ _⟩
  refine cl10_ BK_g.out ?_; intro lc1_0 lc1_1 lc1_2 lc1_3 lc1_4 lc1_5 lc1_6 lc1_7 lc1_8 lc1_9 lf1_0 lf1_1 lf1_2 lf1_3 lf1_4 lf1_5 lf1_6 lf1_7 lf1_8 lf1_9
  go_enter Try.func31, Try.ntmps31
  go_wp2
  first | (go_ret; exact ⟨rfl, rfl⟩) | (exact ⟨rfl, rfl⟩)
 ·have q0 : decide (t < 0) = false := decide_eq_false hz
  have q1 : decide (t < now) = true := decide_eq_true (h0.resolve_left hz)
  clear h0 hz
  have HBW := Aside0.mk hB
  obtain ⟨⟨vl, vo, hb, hl, ho⟩, ⟨f, n, hm, hf⟩⟩ := h
  have BK_g : Aside0 (w.heap[g]? = some (.cells #[.int .i64 wait, .int .i64 again, .int .i64 pause, .int .i64 now, .int .i64 tk, vl, vo, .int .i64 times, .int .i64 last, .map (some m)] 73 (0, 0))) := ⟨hb⟩
  have OB_l : Aside0 (OwnE ks (fun _ => False) 39 B w vl (line)) := ⟨hl⟩
  have MP_m := Aside0.mk hm; have HF := Aside0.mk hf
  have NE_l_g : Aside0 (∀ k, (vl).ownBlock = some k → k ≠ g) := ⟨ks_ne hl hb (by decide)⟩; have NE_l_m : Aside0 (∀ k, (vl).ownBlock = some k → k ≠ m) := ⟨ks_nm hl hm⟩; have NE_g_m : Aside0 (g ≠ m) := ⟨cell_nm hb hm⟩; have NE_m_g : Aside0 (m ≠ g) := ⟨fun e => NE_g_m.out e.symm⟩; have F_g : Aside0 (∀ k, k = g → Mm B g m k ∨ w.heap.size ≤ k) := ⟨fun k e => .inl (.inl e)⟩; have F_m : Aside0 (∀ k, k = m → Mm B g m k ∨ w.heap.size ≤ k) := ⟨fun k e => .inl (.inr (.inl e))⟩
  have HO : Aside0 (IsOut B w vl vo out) := ⟨ho⟩; clear ho
  clear hb hl hm hf hB
  have XT : Aside0 (Ext (Mm B g m) w w) := ⟨Ext.refl _ _⟩
  refine cl10_ BK_g.out ?_; intro lc1_0 lc1_1 lc1_2 lc1_3 lc1_4 lc1_5 lc1_6 lc1_7 lc1_8 lc1_9 lf1_0 lf1_1 lf1_2 lf1_3 lf1_4 lf1_5 lf1_6 lf1_7 lf1_8 lf1_9
  go_enter Try.func31, Try.ntmps31
  go_wp2
  first | (go_ret; exact ⟨rfl, rfl⟩) | (exact ⟨rfl, rfl⟩)
set_option maxHeartbeats 4000000 in
set_option maxRecDepth 100000 in
theorem step_bad {B : Nat} {w : World} {g m : Nat} {wait again pause now tk times last : Int} {line : List (SV)} {rest : Int → Int} {out : Option SV} (h : IsM B w g m ⟨wait, again, pause, now, tk, line, out, times, last, rest⟩) (hB : B ≤ w.heap.size) (t : Int) (h0 : t < 0 ∨ t < now) : Calls Try.prog 12 #[.pointer (some ⟨g, 0, none⟩), .int .i64 t] w fun e w' => e = .returned (.tuple #[.slice none 0 0, .slice none 0 0, .int .i64 1]) ∧ w = w' := by
 go_enter Try.func12, Try.ntmps12
 go_wp2_with (fail)
 go_step3
 go_wp2_with (go_at_call 31; refine (goon_bad h hB t h0).mono ?_; rintro e w1 ⟨rfl, rfl⟩)
 try rw [Exit.noGoto_ret]
 go_ret3
 exact ⟨rfl, rfl⟩
set_option maxHeartbeats 4000000 in
set_option maxRecDepth 100000 in
theorem came_bad {B : Nat} {w : World} {g m : Nat} {wait again pause now tk times last : Int} {line : List (SV)} {rest : Int → Int} {out : Option SV} (h : IsM B w g m ⟨wait, again, pause, now, tk, line, out, times, last, rest⟩) (hB : B ≤ w.heap.size) (t : Int) (h0 : t < 0 ∨ t < now) (u : Int) (A : Option Addr) (b c : Nat) : Calls Try.prog 14 #[.pointer (some ⟨g, 0, none⟩), .int .i64 t, .int .i64 u, .slice A b c] w fun e w' => e = .returned (.tuple #[.slice none 0 0, .int .i64 1]) ∧ w = w' := by
 go_enter Try.func14, Try.ntmps14
 go_wp2_with (go_at_call 31; refine (goon_bad h hB t h0).mono ?_; rintro e w1 ⟨rfl, rfl⟩)
 go_ret2
 exact ⟨rfl, rfl⟩
set_option maxHeartbeats 4000000 in
set_option maxRecDepth 100000 in
theorem ask_unit {B : Nat} {w : World} {g m : Nat} {wait again pause now tk times last : Int} {line : List (SV)} {rest : Int → Int} {out : Option SV} {q : SV} {vs : List Int} (h : IsM B w g m ⟨wait, again, pause, now, tk, line, out, times, last, rest⟩) (hB : B ≤ w.heap.size) (unit : Int) (h1 : unit < 0 ∨ 247 < unit) : Calls Try.prog 11 #[.pointer (some ⟨g, 0, none⟩), .int .i64 unit, .agg #[.int .i64 q.f, .int .i64 q.a, .int .i64 q.c, .slice q.A q.l q.k, .int .i64 q.o, .int .i64 q.n, .int .i64 q.r]] w fun e w' => e = .returned (.tuple #[.int .i64 0, .int .i64 1]) ∧ IsM B w' g m ⟨wait, again, pause, now, tk, line, out, times, last, rest⟩ ∧ Ext (Mm B g m) w w' ∧ Keeps w w' := by
 by_cases hz : unit < 0
 ·skip
  have q0 : decide (unit < 0) = true := decide_eq_true hz
  clear h1 hz
  have HBW := Aside0.mk hB
  obtain ⟨⟨vl, vo, hb, hl, ho⟩, ⟨f, n, hm, hf⟩⟩ := h
  have BK_g : Aside0 (w.heap[g]? = some (.cells #[.int .i64 wait, .int .i64 again, .int .i64 pause, .int .i64 now, .int .i64 tk, vl, vo, .int .i64 times, .int .i64 last, .map (some m)] 73 (0, 0))) := ⟨hb⟩
  have OB_l : Aside0 (OwnE ks (fun _ => False) 39 B w vl (line)) := ⟨hl⟩
  have MP_m := Aside0.mk hm; have HF := Aside0.mk hf
  have NE_l_g : Aside0 (∀ k, (vl).ownBlock = some k → k ≠ g) := ⟨ks_ne hl hb (by decide)⟩; have NE_l_m : Aside0 (∀ k, (vl).ownBlock = some k → k ≠ m) := ⟨ks_nm hl hm⟩; have NE_g_m : Aside0 (g ≠ m) := ⟨cell_nm hb hm⟩; have NE_m_g : Aside0 (m ≠ g) := ⟨fun e => NE_g_m.out e.symm⟩; have F_g : Aside0 (∀ k, k = g → Mm B g m k ∨ w.heap.size ≤ k) := ⟨fun k e => .inl (.inl e)⟩; have F_m : Aside0 (∀ k, k = m → Mm B g m k ∨ w.heap.size ≤ k) := ⟨fun k e => .inl (.inr (.inl e))⟩
  have HO : Aside0 (IsOut B w vl vo out) := ⟨ho⟩; clear ho
  clear hb hl hm hf hB
  have XT : Aside0 (Ext (Mm B g m) w w) := ⟨Ext.refl _ _⟩
  refine cl10_ BK_g.out ?_; intro lc1_0 lc1_1 lc1_2 lc1_3 lc1_4 lc1_5 lc1_6 lc1_7 lc1_8 lc1_9 lf1_0 lf1_1 lf1_2 lf1_3 lf1_4 lf1_5 lf1_6 lf1_7 lf1_8 lf1_9
  have KP : Aside0 (Keeps w w) := ⟨fun _ _ _ h _ _ => h⟩; have hu31 := Try.underlying31
  obtain ⟨A, c, rfl⟩ := OB_l.out.slice
  go_enter Try.func11, Try.ntmps11
  go_wp2_with (first | ((with_reducible refine gate_dst (N := 5) rfl ?_); refine bx_ (N := 5) (cs := #[.int .i64 q.f, .int .i64 q.a, .int .i64 q.c, .slice q.A q.l q.k, .int .i64 q.o, .int .i64 q.n, .int .i64 q.r]) (t := 31) ?_; intro b hg w1 hbox HBc; have NE_l_b : Aside0 (∀ k, ((Value.slice A line.length c)).ownBlock = some k → k ≠ b) := ⟨fun k hk e => by have := OwnE.lt OB_l.out k hk; omega⟩; have NE_g_b : Aside0 (g ≠ b) := ⟨ne_born (blk_lt BK_g.out) hg⟩; have NE_b_g : Aside0 (b ≠ g) := ⟨fun e => NE_g_b.out e.symm⟩; have NE_m_b : Aside0 (m ≠ b) := ⟨ne_born (IsMap.lt MP_m.out) hg⟩; have NE_b_m : Aside0 (b ≠ m) := ⟨fun e => NE_m_b.out e.symm⟩; have F_b : Aside0 (∀ k, k = b → (Mm B g m) k ∨ w.heap.size ≤ k) := ⟨fnew hg XT.out.size⟩; have RG_b : Aside0 (w.heap.size ≤ b) := ⟨Nat.le_trans XT.out.size (Nat.le_of_eq hg.symm)⟩; have BG_b : Aside0 (B ≤ b) := ⟨Nat.le_trans HBW.out RG_b.out⟩; clear hg; replace OB_l := Aside0.mk (ks_mv OB_l.out (Ext.none_ HBc) (fun _ _ e => e)); replace KP := Aside0.mk (keeps_then KP.out HBc); replace HO := Aside0.mk (HO.out.below HBc); clear lc1_0 lc1_1 lc1_2 lc1_3 lc1_4 lc1_5 lc1_6 lc1_7 lc1_8 lc1_9 lf1_0 lf1_1 lf1_2 lf1_3 lf1_4 lf1_5 lf1_6 lf1_7 lf1_8 lf1_9; replace BK_g := Aside0.mk (Ext.blk (Ext.none_ HBc) BK_g.out (fun e => e)); replace MP_m := Aside0.mk (IsMap.ext MP_m.out (Ext.none_ HBc) (fun e => e)); replace XT := Aside0.mk (XT.out.stepB HBc); have BK_b : Aside0 (w1.heap[b]? = some (.cells #[.int .i64 q.f, .int .i64 q.a, .int .i64 q.c, .slice q.A q.l q.k, .int .i64 q.o, .int .i64 q.n, .int .i64 q.r] 31 (0, 0))) := ⟨hbox⟩; clear hbox HBc; refine cl10_ BK_g.out ?_; intro lc2_0 lc2_1 lc2_2 lc2_3 lc2_4 lc2_5 lc2_6 lc2_7 lc2_8 lc2_9 lf2_0 lf2_1 lf2_2 lf2_3 lf2_4 lf2_5 lf2_6 lf2_7 lf2_8 lf2_9; refine cl7_ BK_b.out ?_; intro lc3_0 lc3_1 lc3_2 lc3_3 lc3_4 lc3_5 lc3_6 lf3_0 lf3_1 lf3_2 lf3_3 lf3_4 lf3_5 lf3_6))
  go_ret2
  exact ⟨rfl, ⟨⟨_, _, BK_g.out, OB_l.out, HO.out⟩, ⟨_, _, MP_m.out, HF.out⟩⟩, XT.out, KP.out⟩
 ·skip
  have q0 : decide (unit < 0) = false := decide_eq_false hz; have q1 : decide (247 < unit) = true := decide_eq_true (h1.resolve_left hz)
  clear h1 hz
  have HBW := Aside0.mk hB
  obtain ⟨⟨vl, vo, hb, hl, ho⟩, ⟨f, n, hm, hf⟩⟩ := h
  have BK_g : Aside0 (w.heap[g]? = some (.cells #[.int .i64 wait, .int .i64 again, .int .i64 pause, .int .i64 now, .int .i64 tk, vl, vo, .int .i64 times, .int .i64 last, .map (some m)] 73 (0, 0))) := ⟨hb⟩
  have OB_l : Aside0 (OwnE ks (fun _ => False) 39 B w vl (line)) := ⟨hl⟩
  have MP_m := Aside0.mk hm; have HF := Aside0.mk hf
  have NE_l_g : Aside0 (∀ k, (vl).ownBlock = some k → k ≠ g) := ⟨ks_ne hl hb (by decide)⟩; have NE_l_m : Aside0 (∀ k, (vl).ownBlock = some k → k ≠ m) := ⟨ks_nm hl hm⟩; have NE_g_m : Aside0 (g ≠ m) := ⟨cell_nm hb hm⟩; have NE_m_g : Aside0 (m ≠ g) := ⟨fun e => NE_g_m.out e.symm⟩; have F_g : Aside0 (∀ k, k = g → Mm B g m k ∨ w.heap.size ≤ k) := ⟨fun k e => .inl (.inl e)⟩; have F_m : Aside0 (∀ k, k = m → Mm B g m k ∨ w.heap.size ≤ k) := ⟨fun k e => .inl (.inr (.inl e))⟩
  have HO : Aside0 (IsOut B w vl vo out) := ⟨ho⟩; clear ho
  clear hb hl hm hf hB
  have XT : Aside0 (Ext (Mm B g m) w w) := ⟨Ext.refl _ _⟩
  refine cl10_ BK_g.out ?_; intro lc1_0 lc1_1 lc1_2 lc1_3 lc1_4 lc1_5 lc1_6 lc1_7 lc1_8 lc1_9 lf1_0 lf1_1 lf1_2 lf1_3 lf1_4 lf1_5 lf1_6 lf1_7 lf1_8 lf1_9
  have KP : Aside0 (Keeps w w) := ⟨fun _ _ _ h _ _ => h⟩; have hu31 := Try.underlying31
  obtain ⟨A, c, rfl⟩ := OB_l.out.slice
  go_enter Try.func11, Try.ntmps11
  go_wp2_with (first | ((with_reducible refine gate_dst (N := 5) rfl ?_); refine bx_ (N := 5) (cs := #[.int .i64 q.f, .int .i64 q.a, .int .i64 q.c, .slice q.A q.l q.k, .int .i64 q.o, .int .i64 q.n, .int .i64 q.r]) (t := 31) ?_; intro b hg w1 hbox HBc; have NE_l_b : Aside0 (∀ k, ((Value.slice A line.length c)).ownBlock = some k → k ≠ b) := ⟨fun k hk e => by have := OwnE.lt OB_l.out k hk; omega⟩; have NE_g_b : Aside0 (g ≠ b) := ⟨ne_born (blk_lt BK_g.out) hg⟩; have NE_b_g : Aside0 (b ≠ g) := ⟨fun e => NE_g_b.out e.symm⟩; have NE_m_b : Aside0 (m ≠ b) := ⟨ne_born (IsMap.lt MP_m.out) hg⟩; have NE_b_m : Aside0 (b ≠ m) := ⟨fun e => NE_m_b.out e.symm⟩; have F_b : Aside0 (∀ k, k = b → (Mm B g m) k ∨ w.heap.size ≤ k) := ⟨fnew hg XT.out.size⟩; have RG_b : Aside0 (w.heap.size ≤ b) := ⟨Nat.le_trans XT.out.size (Nat.le_of_eq hg.symm)⟩; have BG_b : Aside0 (B ≤ b) := ⟨Nat.le_trans HBW.out RG_b.out⟩; clear hg; replace OB_l := Aside0.mk (ks_mv OB_l.out (Ext.none_ HBc) (fun _ _ e => e)); replace KP := Aside0.mk (keeps_then KP.out HBc); replace HO := Aside0.mk (HO.out.below HBc); clear lc1_0 lc1_1 lc1_2 lc1_3 lc1_4 lc1_5 lc1_6 lc1_7 lc1_8 lc1_9 lf1_0 lf1_1 lf1_2 lf1_3 lf1_4 lf1_5 lf1_6 lf1_7 lf1_8 lf1_9; replace BK_g := Aside0.mk (Ext.blk (Ext.none_ HBc) BK_g.out (fun e => e)); replace MP_m := Aside0.mk (IsMap.ext MP_m.out (Ext.none_ HBc) (fun e => e)); replace XT := Aside0.mk (XT.out.stepB HBc); have BK_b : Aside0 (w1.heap[b]? = some (.cells #[.int .i64 q.f, .int .i64 q.a, .int .i64 q.c, .slice q.A q.l q.k, .int .i64 q.o, .int .i64 q.n, .int .i64 q.r] 31 (0, 0))) := ⟨hbox⟩; clear hbox HBc; refine cl10_ BK_g.out ?_; intro lc2_0 lc2_1 lc2_2 lc2_3 lc2_4 lc2_5 lc2_6 lc2_7 lc2_8 lc2_9 lf2_0 lf2_1 lf2_2 lf2_3 lf2_4 lf2_5 lf2_6 lf2_7 lf2_8 lf2_9; refine cl7_ BK_b.out ?_; intro lc3_0 lc3_1 lc3_2 lc3_3 lc3_4 lc3_5 lc3_6 lf3_0 lf3_1 lf3_2 lf3_3 lf3_4 lf3_5 lf3_6))
  go_ret2
  exact ⟨rfl, ⟨⟨_, _, BK_g.out, OB_l.out, HO.out⟩, ⟨_, _, MP_m.out, HF.out⟩⟩, XT.out, KP.out⟩
set_option maxHeartbeats 4000000 in
set_option maxRecDepth 100000 in
theorem ask_chk {B : Nat} {w : World} {g m : Nat} {wait again pause now tk times last : Int} {line : List (SV)} {rest : Int → Int} {out : Option SV} {q : SV} {vs : List Int} (h : IsM B w g m ⟨wait, again, pause, now, tk, line, out, times, last, rest⟩) (hB : B ≤ w.heap.size) (unit : Int) (h0 : 0 ≤ unit) (h1 : unit ≤ 247) (hV : Ever (Mm B g m) w (fun W => Kd.C (Kd.int .i64) W q.A vs.length vs)) (hvl : vs.length = q.l) (hck : Chk.chkB q.f q.a q.c vs q.o q.n q.r = false) : Calls Try.prog 11 #[.pointer (some ⟨g, 0, none⟩), .int .i64 unit, .agg #[.int .i64 q.f, .int .i64 q.a, .int .i64 q.c, .slice q.A q.l q.k, .int .i64 q.o, .int .i64 q.n, .int .i64 q.r]] w fun e w' => e = .returned (.tuple #[.int .i64 0, .int .i64 1]) ∧ IsM B w' g m ⟨wait, again, pause, now, tk, line, out, times, last, rest⟩ ∧ Ext (Mm B g m) w w' ∧ Keeps w w' := by
 have q0 : decide (unit < 0) = false := decide_eq_false (by omega); have q1 : decide (247 < unit) = false := decide_eq_false (by omega); have HV := Aside0.mk hV; have HVL := Aside0.mk hvl; have HCK := Aside0.mk hck; clear hV hvl hck
 clear h0 h1
 have HBW := Aside0.mk hB
 obtain ⟨⟨vl, vo, hb, hl, ho⟩, ⟨f, n, hm, hf⟩⟩ := h
 have BK_g : Aside0 (w.heap[g]? = some (.cells #[.int .i64 wait, .int .i64 again, .int .i64 pause, .int .i64 now, .int .i64 tk, vl, vo, .int .i64 times, .int .i64 last, .map (some m)] 73 (0, 0))) := ⟨hb⟩
 have OB_l : Aside0 (OwnE ks (fun _ => False) 39 B w vl (line)) := ⟨hl⟩
 have MP_m := Aside0.mk hm; have HF := Aside0.mk hf
 have NE_l_g : Aside0 (∀ k, (vl).ownBlock = some k → k ≠ g) := ⟨ks_ne hl hb (by decide)⟩; have NE_l_m : Aside0 (∀ k, (vl).ownBlock = some k → k ≠ m) := ⟨ks_nm hl hm⟩; have NE_g_m : Aside0 (g ≠ m) := ⟨cell_nm hb hm⟩; have NE_m_g : Aside0 (m ≠ g) := ⟨fun e => NE_g_m.out e.symm⟩; have F_g : Aside0 (∀ k, k = g → Mm B g m k ∨ w.heap.size ≤ k) := ⟨fun k e => .inl (.inl e)⟩; have F_m : Aside0 (∀ k, k = m → Mm B g m k ∨ w.heap.size ≤ k) := ⟨fun k e => .inl (.inr (.inl e))⟩
 have HO : Aside0 (IsOut B w vl vo out) := ⟨ho⟩; clear ho
 clear hb hl hm hf hB
 have XT : Aside0 (Ext (Mm B g m) w w) := ⟨Ext.refl _ _⟩
 refine cl10_ BK_g.out ?_; intro lc1_0 lc1_1 lc1_2 lc1_3 lc1_4 lc1_5 lc1_6 lc1_7 lc1_8 lc1_9 lf1_0 lf1_1 lf1_2 lf1_3 lf1_4 lf1_5 lf1_6 lf1_7 lf1_8 lf1_9
 have KP : Aside0 (Keeps w w) := ⟨fun _ _ _ h _ _ => h⟩; have hu31 := Try.underlying31
 obtain ⟨A, c, rfl⟩ := OB_l.out.slice
 go_enter Try.func11, Try.ntmps11
 go_wp2_with (first | ((with_reducible refine gate_dst (N := 5) rfl ?_); refine bx_ (N := 5) (cs := #[.int .i64 q.f, .int .i64 q.a, .int .i64 q.c, .slice q.A q.l q.k, .int .i64 q.o, .int .i64 q.n, .int .i64 q.r]) (t := 31) ?_; intro b hg w1 hbox HBc; have NE_l_b : Aside0 (∀ k, ((Value.slice A line.length c)).ownBlock = some k → k ≠ b) := ⟨fun k hk e => by have := OwnE.lt OB_l.out k hk; omega⟩; have NE_g_b : Aside0 (g ≠ b) := ⟨ne_born (blk_lt BK_g.out) hg⟩; have NE_b_g : Aside0 (b ≠ g) := ⟨fun e => NE_g_b.out e.symm⟩; have NE_m_b : Aside0 (m ≠ b) := ⟨ne_born (IsMap.lt MP_m.out) hg⟩; have NE_b_m : Aside0 (b ≠ m) := ⟨fun e => NE_m_b.out e.symm⟩; have F_b : Aside0 (∀ k, k = b → (Mm B g m) k ∨ w.heap.size ≤ k) := ⟨fnew hg XT.out.size⟩; have RG_b : Aside0 (w.heap.size ≤ b) := ⟨Nat.le_trans XT.out.size (Nat.le_of_eq hg.symm)⟩; have BG_b : Aside0 (B ≤ b) := ⟨Nat.le_trans HBW.out RG_b.out⟩; clear hg; replace OB_l := Aside0.mk (ks_mv OB_l.out (Ext.none_ HBc) (fun _ _ e => e)); replace KP := Aside0.mk (keeps_then KP.out HBc); replace HO := Aside0.mk (HO.out.below HBc); clear lc1_0 lc1_1 lc1_2 lc1_3 lc1_4 lc1_5 lc1_6 lc1_7 lc1_8 lc1_9 lf1_0 lf1_1 lf1_2 lf1_3 lf1_4 lf1_5 lf1_6 lf1_7 lf1_8 lf1_9; replace BK_g := Aside0.mk (Ext.blk (Ext.none_ HBc) BK_g.out (fun e => e)); replace MP_m := Aside0.mk (IsMap.ext MP_m.out (Ext.none_ HBc) (fun e => e)); replace XT := Aside0.mk (XT.out.stepB HBc); have BK_b : Aside0 (w1.heap[b]? = some (.cells #[.int .i64 q.f, .int .i64 q.a, .int .i64 q.c, .slice q.A q.l q.k, .int .i64 q.o, .int .i64 q.n, .int .i64 q.r] 31 (0, 0))) := ⟨hbox⟩; clear hbox HBc; refine cl10_ BK_g.out ?_; intro lc2_0 lc2_1 lc2_2 lc2_3 lc2_4 lc2_5 lc2_6 lc2_7 lc2_8 lc2_9 lf2_0 lf2_1 lf2_2 lf2_3 lf2_4 lf2_5 lf2_6 lf2_7 lf2_8 lf2_9; refine cl7_ BK_b.out ?_; intro lc3_0 lc3_1 lc3_2 lc3_3 lc3_4 lc3_5 lc3_6 lf3_0 lf3_1 lf3_2 lf3_3 lf3_4 lf3_5 lf3_6) | (go_at_call 29; refine (chk_no (HV.out.at_ _ XT.out) HVL.out HCK.out).mono ?_; rintro e w2 ⟨rfl, HBc⟩; replace OB_l := Aside0.mk (ks_mv OB_l.out (Ext.none_ HBc) (fun _ _ e => e)); replace KP := Aside0.mk (keeps_then KP.out HBc); replace HO := Aside0.mk (HO.out.below HBc); clear lc2_0 lc2_1 lc2_2 lc2_3 lc2_4 lc2_5 lc2_6 lc2_7 lc2_8 lc2_9 lf2_0 lf2_1 lf2_2 lf2_3 lf2_4 lf2_5 lf2_6 lf2_7 lf2_8 lf2_9 lc3_0 lc3_1 lc3_2 lc3_3 lc3_4 lc3_5 lc3_6 lf3_0 lf3_1 lf3_2 lf3_3 lf3_4 lf3_5 lf3_6; replace BK_g := Aside0.mk (Ext.blk (Ext.none_ HBc) BK_g.out (fun e => e)); replace BK_b := Aside0.mk (Ext.blk (Ext.none_ HBc) BK_b.out (fun e => e)); replace MP_m := Aside0.mk (IsMap.ext MP_m.out (Ext.none_ HBc) (fun e => e)); replace XT := Aside0.mk (XT.out.stepB HBc); clear HBc; refine cl10_ BK_g.out ?_; intro lc4_0 lc4_1 lc4_2 lc4_3 lc4_4 lc4_5 lc4_6 lc4_7 lc4_8 lc4_9 lf4_0 lf4_1 lf4_2 lf4_3 lf4_4 lf4_5 lf4_6 lf4_7 lf4_8 lf4_9; refine cl7_ BK_b.out ?_; intro lc5_0 lc5_1 lc5_2 lc5_3 lc5_4 lc5_5 lc5_6 lf5_0 lf5_1 lf5_2 lf5_3 lf5_4 lf5_5 lf5_6))
 go_ret2
 exact ⟨rfl, ⟨⟨_, _, BK_g.out, OB_l.out, HO.out⟩, ⟨_, _, MP_m.out, HF.out⟩⟩, XT.out, KP.out⟩
set_option maxHeartbeats 4000000 in
set_option maxRecDepth 100000 in
theorem ask_full {B : Nat} {w : World} {g m : Nat} {wait again pause now tk times last : Int} {line : List (SV)} {rest : Int → Int} {out : Option SV} {q : SV} {vs : List Int} (h : IsM B w g m ⟨wait, again, pause, now, tk, line, out, times, last, rest⟩) (hB : B ≤ w.heap.size) (unit : Int) (h0 : 0 ≤ unit) (h1 : unit ≤ 247) (hV : Ever (Mm B g m) w (fun W => Kd.C (Kd.int .i64) W q.A vs.length vs)) (hvl : vs.length = q.l) (hck : Chk.chkB q.f q.a q.c vs q.o q.n q.r = true) (hl : 64 ≤ line.length) : Calls Try.prog 11 #[.pointer (some ⟨g, 0, none⟩), .int .i64 unit, .agg #[.int .i64 q.f, .int .i64 q.a, .int .i64 q.c, .slice q.A q.l q.k, .int .i64 q.o, .int .i64 q.n, .int .i64 q.r]] w fun e w' => e = .returned (.tuple #[.int .i64 0, .int .i64 6]) ∧ IsM B w' g m ⟨wait, again, pause, now, tk, line, out, times, last, rest⟩ ∧ Ext (Mm B g m) w w' ∧ Keeps w w' := by
 have q0 : decide (unit < 0) = false := decide_eq_false (by omega); have q1 : decide (247 < unit) = false := decide_eq_false (by omega); have HV := Aside0.mk hV; have HVL := Aside0.mk hvl; have HCK := Aside0.mk hck; clear hV hvl hck; have q2 : decide (64 ≤ (line.length : Int)) = true := decide_eq_true (by omega); clear hl
 clear h0 h1
 have HBW := Aside0.mk hB
 obtain ⟨⟨vl, vo, hb, hl, ho⟩, ⟨f, n, hm, hf⟩⟩ := h
 have BK_g : Aside0 (w.heap[g]? = some (.cells #[.int .i64 wait, .int .i64 again, .int .i64 pause, .int .i64 now, .int .i64 tk, vl, vo, .int .i64 times, .int .i64 last, .map (some m)] 73 (0, 0))) := ⟨hb⟩
 have OB_l : Aside0 (OwnE ks (fun _ => False) 39 B w vl (line)) := ⟨hl⟩
 have MP_m := Aside0.mk hm; have HF := Aside0.mk hf
 have NE_l_g : Aside0 (∀ k, (vl).ownBlock = some k → k ≠ g) := ⟨ks_ne hl hb (by decide)⟩; have NE_l_m : Aside0 (∀ k, (vl).ownBlock = some k → k ≠ m) := ⟨ks_nm hl hm⟩; have NE_g_m : Aside0 (g ≠ m) := ⟨cell_nm hb hm⟩; have NE_m_g : Aside0 (m ≠ g) := ⟨fun e => NE_g_m.out e.symm⟩; have F_g : Aside0 (∀ k, k = g → Mm B g m k ∨ w.heap.size ≤ k) := ⟨fun k e => .inl (.inl e)⟩; have F_m : Aside0 (∀ k, k = m → Mm B g m k ∨ w.heap.size ≤ k) := ⟨fun k e => .inl (.inr (.inl e))⟩
 have HO : Aside0 (IsOut B w vl vo out) := ⟨ho⟩; clear ho
 clear hb hl hm hf hB
 have XT : Aside0 (Ext (Mm B g m) w w) := ⟨Ext.refl _ _⟩
 refine cl10_ BK_g.out ?_; intro lc1_0 lc1_1 lc1_2 lc1_3 lc1_4 lc1_5 lc1_6 lc1_7 lc1_8 lc1_9 lf1_0 lf1_1 lf1_2 lf1_3 lf1_4 lf1_5 lf1_6 lf1_7 lf1_8 lf1_9
 have KP : Aside0 (Keeps w w) := ⟨fun _ _ _ h _ _ => h⟩; have hu31 := Try.underlying31
 obtain ⟨A, c, rfl⟩ := OB_l.out.slice
 go_enter Try.func11, Try.ntmps11
 go_wp2_with (first | ((with_reducible refine gate_dst (N := 5) rfl ?_); refine bx_ (N := 5) (cs := #[.int .i64 q.f, .int .i64 q.a, .int .i64 q.c, .slice q.A q.l q.k, .int .i64 q.o, .int .i64 q.n, .int .i64 q.r]) (t := 31) ?_; intro b hg w1 hbox HBc; have NE_l_b : Aside0 (∀ k, ((Value.slice A line.length c)).ownBlock = some k → k ≠ b) := ⟨fun k hk e => by have := OwnE.lt OB_l.out k hk; omega⟩; have NE_g_b : Aside0 (g ≠ b) := ⟨ne_born (blk_lt BK_g.out) hg⟩; have NE_b_g : Aside0 (b ≠ g) := ⟨fun e => NE_g_b.out e.symm⟩; have NE_m_b : Aside0 (m ≠ b) := ⟨ne_born (IsMap.lt MP_m.out) hg⟩; have NE_b_m : Aside0 (b ≠ m) := ⟨fun e => NE_m_b.out e.symm⟩; have F_b : Aside0 (∀ k, k = b → (Mm B g m) k ∨ w.heap.size ≤ k) := ⟨fnew hg XT.out.size⟩; have RG_b : Aside0 (w.heap.size ≤ b) := ⟨Nat.le_trans XT.out.size (Nat.le_of_eq hg.symm)⟩; have BG_b : Aside0 (B ≤ b) := ⟨Nat.le_trans HBW.out RG_b.out⟩; clear hg; replace OB_l := Aside0.mk (ks_mv OB_l.out (Ext.none_ HBc) (fun _ _ e => e)); replace KP := Aside0.mk (keeps_then KP.out HBc); replace HO := Aside0.mk (HO.out.below HBc); clear lc1_0 lc1_1 lc1_2 lc1_3 lc1_4 lc1_5 lc1_6 lc1_7 lc1_8 lc1_9 lf1_0 lf1_1 lf1_2 lf1_3 lf1_4 lf1_5 lf1_6 lf1_7 lf1_8 lf1_9; replace BK_g := Aside0.mk (Ext.blk (Ext.none_ HBc) BK_g.out (fun e => e)); replace MP_m := Aside0.mk (IsMap.ext MP_m.out (Ext.none_ HBc) (fun e => e)); replace XT := Aside0.mk (XT.out.stepB HBc); have BK_b : Aside0 (w1.heap[b]? = some (.cells #[.int .i64 q.f, .int .i64 q.a, .int .i64 q.c, .slice q.A q.l q.k, .int .i64 q.o, .int .i64 q.n, .int .i64 q.r] 31 (0, 0))) := ⟨hbox⟩; clear hbox HBc; refine cl10_ BK_g.out ?_; intro lc2_0 lc2_1 lc2_2 lc2_3 lc2_4 lc2_5 lc2_6 lc2_7 lc2_8 lc2_9 lf2_0 lf2_1 lf2_2 lf2_3 lf2_4 lf2_5 lf2_6 lf2_7 lf2_8 lf2_9; refine cl7_ BK_b.out ?_; intro lc3_0 lc3_1 lc3_2 lc3_3 lc3_4 lc3_5 lc3_6 lf3_0 lf3_1 lf3_2 lf3_3 lf3_4 lf3_5 lf3_6) | (go_at_call 29; refine (chk_q (HV.out.at_ _ XT.out) HVL.out HCK.out).mono ?_; rintro e w2 ⟨rfl, HBc⟩; replace OB_l := Aside0.mk (ks_mv OB_l.out (Ext.none_ HBc) (fun _ _ e => e)); replace KP := Aside0.mk (keeps_then KP.out HBc); replace HO := Aside0.mk (HO.out.below HBc); clear lc2_0 lc2_1 lc2_2 lc2_3 lc2_4 lc2_5 lc2_6 lc2_7 lc2_8 lc2_9 lf2_0 lf2_1 lf2_2 lf2_3 lf2_4 lf2_5 lf2_6 lf2_7 lf2_8 lf2_9 lc3_0 lc3_1 lc3_2 lc3_3 lc3_4 lc3_5 lc3_6 lf3_0 lf3_1 lf3_2 lf3_3 lf3_4 lf3_5 lf3_6; replace BK_g := Aside0.mk (Ext.blk (Ext.none_ HBc) BK_g.out (fun e => e)); replace BK_b := Aside0.mk (Ext.blk (Ext.none_ HBc) BK_b.out (fun e => e)); replace MP_m := Aside0.mk (IsMap.ext MP_m.out (Ext.none_ HBc) (fun e => e)); replace XT := Aside0.mk (XT.out.stepB HBc); clear HBc; refine cl10_ BK_g.out ?_; intro lc4_0 lc4_1 lc4_2 lc4_3 lc4_4 lc4_5 lc4_6 lc4_7 lc4_8 lc4_9 lf4_0 lf4_1 lf4_2 lf4_3 lf4_4 lf4_5 lf4_6 lf4_7 lf4_8 lf4_9; refine cl7_ BK_b.out ?_; intro lc5_0 lc5_1 lc5_2 lc5_3 lc5_4 lc5_5 lc5_6 lf5_0 lf5_1 lf5_2 lf5_3 lf5_4 lf5_5 lf5_6))
 go_ret2
 exact ⟨rfl, ⟨⟨_, _, BK_g.out, OB_l.out, HO.out⟩, ⟨_, _, MP_m.out, HF.out⟩⟩, XT.out, KP.out⟩
end Go.Proofs.Ytlalpooiegganaa.MsgG
end

section
namespace Go.Proofs.Ytlalpooiegganaa.PG
open Go.RowKit Go.Proofs.YtlalpooiegganaaW.PrintWords Go.Proofs.YtlalpooiegganaaW.PrintLast Go.Proofs.YtlalpooiegganaaW.PrintMore
attribute [local go_sem] max2_int min2_int max_two min_two max_three min_three max_four min_four   
set_option linter.unusedVariables false
set_option linter.unusedSimpArgs false
open Go.Proofs.Ytlalpooiegganaa.Ext Go.Proofs.Ytlalpooiegganaa.PP Go.Proofs.Ytlalpooiegganaa.ExtF Go.Proofs.Ytlalpooiegganaa.ExtM
def basculeref01_Both.f (l0 : List Int) (l1 : List Int) : Option (List Int) := if ([] : List Int).length + l0.length < 140737488355328 then ((some (([] : List Int) ++ l0 : List Int)).bind fun y274 => (if y274.length + l1.length < 140737488355328 then (some (y274 ++ l1)) else (none))) else (none)
set_option maxHeartbeats 8000000 in
set_option maxRecDepth 100000 in
theorem basculeref01_Both.calls (A0 : Option Addr) (c0 : Nat) (l0 : List Int) (A1 : Option Addr) (c1 : Nat) (l1 : List Int) (r : List Int) (w : World) (hr0 : Kd.C (Kd.int .u8) w A0 l0.length l0) (hc0 : l0.length ≤ c0) (hr1 : Kd.C (Kd.int .u8) w A1 l1.length l1) (hc1 : l1.length ≤ c1) (h : basculeref01_Both.f l0 l1 = some r) :
 Calls Try.prog 65 #[.slice A0 l0.length c0, .slice A1 l1.length c1] w fun e w' => ∃ v0_ : Value, e = .returned (v0_) ∧ Kd.R (Kd.int .u8) 5 w' w.heap.size (fun _ => True) v0_ r ∧ Below w.heap.size w w' := by
 have HR0 := Aside0.mk hr0
 have HC0 := Aside0.mk hc0
 clear hr0 hc0
 have HR1 := Aside0.mk hr1
 have HC1 := Aside0.mk hc1
 clear hr1 hc1
 have HB := Aside0.mk (Below.refl w.heap.size w)
 have H : (if ([] : List Int).length + l0.length < 140737488355328 then ((some (([] : List Int) ++ l0 : List Int)).bind fun y274 => (if y274.length + l1.length < 140737488355328 then (some (y274 ++ l1)) else (none))) else (none)) = some r := h
 clear h
 by_cases c3 : ([] : List Int).length + l0.length < 140737488355328
 ·rw [if_pos c3] at H
  have LMc3 := Aside0.mk c3
  clear c3
  obtain ⟨y274, hy274⟩ : ∃ y_ : List Int, y_ = (([] : List Int) ++ l0) := ⟨_, rfl⟩
  replace H : (if y274.length + l1.length < 140737488355328 then (some (y274 ++ l1)) else (none)) = some r := by first | (rw [hy274]; with_reducible exact H) | (have H2_ := (Option.bind_some _ _).symm.trans H; rw [hy274]; with_reducible exact H2_) | (have H2_ := (Option.bind_some _ _).symm.trans H; with_reducible exact H2_) | with_reducible exact H | (rw [hy274]; exact H) | exact H
  have Ny274 := Aside0.mk hy274
  clear hy274
  by_cases c4 : y274.length + l1.length < 140737488355328
  ·rw [if_pos c4] at H
   have LMc4 := Aside0.mk c4
   clear c4
   obtain ⟨y277, hy277⟩ : ∃ y_ : List Int, y_ = (y274 ++ l1) := ⟨_, rfl⟩
   replace H : (some y277) = some r := by first | (rw [hy277]; with_reducible exact H) | (have H2_ := (Option.bind_some _ _).symm.trans H; rw [hy277]; with_reducible exact H2_) | (have H2_ := (Option.bind_some _ _).symm.trans H; with_reducible exact H2_) | with_reducible exact H | (rw [hy277]; exact H) | exact H
   have Ny277 := Aside0.mk hy277
   clear hy277
   obtain rfl := Option.some.inj H
   go_enter Try.func65, Try.ntmps65
   go_wp2_with (first | ((with_reducible refine gate_builtin (b := .append) (xs := #[.tmp 6, .tmp 7]) rfl ?_); at_builtin; refine Kd.R_append_rows (Kd.int .u8) (w0 := w) w.heap.size rfl (.tmp 6) (.tmp 7) 43 5 (.int .u8 0) 1 rfl Try.underlying43 info5 rfl (by decide) (by omega) (.slice none 0 0) ([] : List Int) l0 _ _ _ (fun _ => True) (fun _ => False) rfl rfl ?aO ?aR (fun _ _ h => h) (fun _ h => h.elim) ?aF ?aB ?aS ?aL ?_; (case aR => repeat (first | exact HR0.out | (with_reducible refine Kd.C_alloc ?_ _) | (with_reducible refine Kd.C_drewN ?_ _) | (with_reducible refine Kd.C_drew ?_))); (case aB => exact (bl0_ HB)); (case aF => exact (fun _ _ => trivial)); (case aO => exact ((Kd.R_nil _ _ _ _ (fun _ => True)))); (case aS => exact (below_size (bl0_ HB))); (case aL => have := LMc3.out; omega); intro v275 w5 ho hb hg hat; rw [← Ny274.out] at ho; have n0_ := Aside0.mk (hb); have n1_ := Aside0.mk (ho); clear HB; have HB := n0_; have HO276 := n1_; clear n0_ n1_; clear ho hb hg hat) | ((with_reducible refine gate_builtin (b := .append) (xs := #[.tmp 9, .tmp 10]) rfl ?_); at_builtin; refine Kd.R_append_rows (Kd.int .u8) (w0 := w) w.heap.size rfl (.tmp 9) (.tmp 10) 43 5 (.int .u8 0) 1 rfl Try.underlying43 info5 rfl (by decide) (by omega) v275 y274 l1 _ _ _ (fun _ => True) (fun _ => False) rfl rfl ?aO ?aR (fun _ _ h => h) (fun _ h => h.elim) ?aF ?aB ?aS ?aL ?_; (case aR => exact sc_ (Kd.C_below HR1.out HB.out)); (case aB => exact (bl0_ HB)); (case aF => exact (fun _ _ => trivial)); (case aO => exact (kr_ HO276)); (case aS => exact (below_size (bl0_ HB))); (case aL => have := LMc4.out; omega); intro v278 w6 ho hb hg hat; rw [← Ny277.out] at ho; have n0_ := Aside0.mk (hb); have n1_ := Aside0.mk (ho); clear HB; clear HO276; have HB := n0_; have HO279 := n1_; clear n0_ n1_; clear ho hb hg hat))
   go_ret
   exact ⟨_, er_, kr_ HO279, bl0_ HB⟩
  ·rw [if_neg c4] at H
   exact absurd H (by simp)
 ·rw [if_neg c3] at H
  exact absurd H (by simp)
end Go.Proofs.Ytlalpooiegganaa.PG
end

section
namespace Go.Proofs.Ytlalpooiegganaa.PG
open Go.RowKit Go.Proofs.YtlalpooiegganaaW.PrintWords Go.Proofs.YtlalpooiegganaaW.PrintLast Go.Proofs.YtlalpooiegganaaW.PrintMore
attribute [local go_sem] max2_int min2_int max_two min_two max_three min_three max_four min_four   
set_option linter.unusedVariables false
set_option linter.unusedSimpArgs false
open Go.Proofs.Ytlalpooiegganaa.Ext Go.Proofs.Ytlalpooiegganaa.PP Go.Proofs.Ytlalpooiegganaa.ExtF Go.Proofs.Ytlalpooiegganaa.ExtM
def basculeref03_counted.f (l0 : List Int) : Option (List Int) := (basculeref01_Both.f (([((l0.length : Int)) % 256] : List Int)) l0).bind fun t283 => (some t283)
set_option maxHeartbeats 8000000 in
set_option maxRecDepth 100000 in
theorem basculeref03_counted.calls (A0 : Option Addr) (c0 : Nat) (l0 : List Int) (r : List Int) (w : World) (hr0 : Kd.C (Kd.int .u8) w A0 l0.length l0) (hc0 : l0.length ≤ c0) (h : basculeref03_counted.f l0 = some r) :
 Calls Try.prog 52 #[.slice A0 l0.length c0] w fun e w' => ∃ v0_ : Value, e = .returned (v0_) ∧ Kd.R (Kd.int .u8) 5 w' w.heap.size (fun _ => True) v0_ r ∧ Below w.heap.size w w' := by
 have HR0 := Aside0.mk hr0
 have HC0 := Aside0.mk hc0
 clear hr0 hc0
 have HB := Aside0.mk (Below.refl w.heap.size w)
 have H : ((basculeref01_Both.f (([((l0.length : Int)) % 256] : List Int)) l0).bind fun t283 => (some t283)) = some r := h
 clear h
 obtain ⟨y280, hy280⟩ : ∃ y_ : List Int, y_ = (([((l0.length : Int)) % 256] : List Int)) := ⟨_, rfl⟩
 replace H : ((basculeref01_Both.f y280 l0).bind fun t283 => (some t283)) = some r := by first | (rw [hy280]; with_reducible exact H) | (have H2_ := (Option.bind_some _ _).symm.trans H; rw [hy280]; with_reducible exact H2_) | (have H2_ := (Option.bind_some _ _).symm.trans H; with_reducible exact H2_) | with_reducible exact H | (rw [hy280]; exact H) | exact H
 have Ny280 := Aside0.mk hy280
 clear hy280
 replace H := Option.bind_eq_some_iff.mp H
 obtain ⟨t283, A20, H⟩ := H
 replace H : (some t283) = some r := H
 have A2 := Aside0.mk A20
 clear A20
 obtain rfl := Option.some.inj H
 go_enter Try.func52, Try.ntmps52
 go_wp2_with (first | ((with_reducible refine gate_dst (N := 6) rfl ?_); refine Kd.R_lit (Kd.int .u8) _ 5 ?hg (N := 6) ?hd (xs := ([((l0.length : Int)) % 256] : List Int)) (inner := [.int .u8 (((l0.length : Int)) % 256)]) (ok := fun _ => True) (okp := fun _ => True) ?hr ?hp (fun _ hk => hk) trivial (Below.refl _ _) (Nat.le_refl _) (by simp) ?_; (case hd => rfl); (case hg => rfl); (case hr => first | (go_simp; done) | (go_simp; rfl)); (case hp => exact (Reps.one (show Kd.M (Kd.int .u8) _ _ _ (((l0.length : Int)) % 256) [.int .u8 (((l0.length : Int)) % 256)] from rfl) (Reps.none _ _))); intro v281 w3 ho4 hb hg_ hnew_; clear hg_ hnew_; (first | rw [← Ny280.out] at ho4 | (simp only [Int.reduceToNat] at ho4; rw [← Ny280.out] at ho4)); have n0_ := Aside0.mk (Kd.R_lower ho4 (below_size (bl0_ HB))); have n1_ := Aside0.mk (below_step (bl0_ HB) hb); clear HB; have HO282 := n0_; have HB := n1_; clear n0_ n1_; clear hb ho4; obtain ⟨Ao5, co5, eo5⟩ := Kd.R_slice HO282.out; subst eo5) | ((with_reducible refine gate_callee (f := 65) rfl ?_); refine goesL_ (some 8) rfl rfl Try.func65 (by kernel_rfl) rfl #[.slice Ao5 y280.length co5, .slice A0 l0.length c0] rfl ar_ ?_; (with_reducible refine (basculeref01_Both.calls _ _ y280 _ _ l0 t283 _ ?side1 ?side2 ?side3 ?side4 A2.out).mono ?_); (case side1 => exact sc_ (Kd.R_reads' HO282.out).2.2); (case side2 => exact (Kd.R_reads' HO282.out).2.1); (case side3 => exact sc_ (Kd.C_below HR0.out HB.out)); (case side4 => exact HC0.out); rintro e w6 ⟨v284, rfl, ho0, hb⟩; refine ⟨_, rfl, ?_⟩; have n0_ := Aside0.mk (Kd.R_elder' (kr_ HO282) (Kd.R_base ho0) hb); have n1_ := Aside0.mk (Kd.R_lower (Kd.R_new' ho0 (Kd.R_lt (kr_ HO282))) (below_size (bl0_ HB))); have n2_ := Aside0.mk (below_step (bl0_ HB) hb); clear HO282; clear HB; have HO282 := n0_; have HO285 := n1_; have HB := n2_; clear n0_ n1_ n2_; (try clear hb); (try clear hb2); (try clear hk); (try clear hi); (try clear ho0)))
 go_ret
 exact ⟨_, er_, by (with_reducible repeat (first | apply Kd.R_alloc | apply Kd.R_drewN | apply Kd.R_drew)); exact Kd.R_mono HO285.out (fun _ hk => trivial), bl0_ HB⟩
end Go.Proofs.Ytlalpooiegganaa.PG
end

section
namespace Go.Proofs.Ytlalpooiegganaa.PG
open Go.RowKit Go.Proofs.YtlalpooiegganaaW.PrintWords Go.Proofs.YtlalpooiegganaaW.PrintLast Go.Proofs.YtlalpooiegganaaW.PrintMore
attribute [local go_sem] max2_int min2_int max_two min_two max_three min_three max_four min_four   
set_option linter.unusedVariables false
set_option linter.unusedSimpArgs false
open Go.Proofs.Ytlalpooiegganaa.Ext Go.Proofs.Ytlalpooiegganaa.PP Go.Proofs.Ytlalpooiegganaa.ExtF Go.Proofs.Ytlalpooiegganaa.ExtM
mutual
def basculeref01_Pack.l0 : Nat → List Int → List Int → Int → Option (List Int)
 | 0, _, _, _ => none
 | k + 1, x0, x3, x4 => if x4 < (x0.length : Int) then (basculeref01_Pack.l1 k x0 x3 x4 0 1 x4) else (some x3)
def basculeref01_Pack.l1 : Nat → List Int → List Int → Int → Int → Int → Int → Option (List Int)
 | 0, _, _, _, _, _, _ => none
 | k + 1, x0, x3, x4, x5, x6, x7 => if x7 < (wrap64 (x4 + 8)) then (if x7 < (x0.length : Int) then (if 0 ≤ x7 then (basculeref01_Pack.l1 k x0 x3 x4 (wrap64 (x5 + (wrap64 (x6 * (rd x0 x7))))) (wrap64 (2 * x6)) (wrap64 (x7 + 1))) else (none)) else (if x3.length < 140737488355328 then (basculeref01_Pack.l0 k x0 (x3 ++ [(x5) % 256]) (wrap64 (x4 + 8))) else (none))) else (if x3.length < 140737488355328 then (basculeref01_Pack.l0 k x0 (x3 ++ [(x5) % 256]) (wrap64 (x4 + 8))) else (none))
end
def basculeref01_Pack.f (k : Nat) (l0 : List Int) : Option (List Int) := basculeref01_Pack.l0 k l0 ([] : List Int) 0
theorem basculeref01_Pack.mono_l : ∀ k, (∀ y0 y1 y2, LeO (basculeref01_Pack.l0 k y0 y1 y2) (basculeref01_Pack.l0 (k + 1) y0 y1 y2)) ∧ (∀ y0 y1 y2 y3 y4 y5, LeO (basculeref01_Pack.l1 k y0 y1 y2 y3 y4 y5) (basculeref01_Pack.l1 (k + 1) y0 y1 y2 y3 y4 y5))
 | 0 => ⟨fun _ _ _ r h => by simp [basculeref01_Pack.l0] at h, fun _ _ _ _ _ _ r h => by simp [basculeref01_Pack.l1] at h⟩
 | k + 1 => by
  obtain ⟨ih0, ih1⟩ := basculeref01_Pack.mono_l k
  refine ⟨?_, ?_⟩
  ·intro y0 y1 y2
   unfold basculeref01_Pack.l0
   repeat' first
   | (with_reducible exact ih0 _ _ _)
   | (with_reducible exact ih1 _ _ _ _ _ _)
   | (with_reducible exact LeO.refl _)
   | (with_reducible exact LeO.none _)
   | (with_reducible refine LeO.ite ?_ ?_)
   | (with_reducible refine LeO.bind ?_ (fun _ => ?_))
   | exact ih0 _ _ _
   | exact ih1 _ _ _ _ _ _
   | exact LeO.none _
   | refine LeO.ite ?_ ?_
   | refine LeO.bind ?_ (fun _ => ?_)
  ·intro y0 y1 y2 y3 y4 y5
   unfold basculeref01_Pack.l1
   repeat' first
   | (with_reducible exact ih0 _ _ _)
   | (with_reducible exact ih1 _ _ _ _ _ _)
   | (with_reducible exact LeO.refl _)
   | (with_reducible exact LeO.none _)
   | (with_reducible refine LeO.ite ?_ ?_)
   | (with_reducible refine LeO.bind ?_ (fun _ => ?_))
   | exact ih0 _ _ _
   | exact ih1 _ _ _ _ _ _
   | exact LeO.none _
   | refine LeO.ite ?_ ?_
   | refine LeO.bind ?_ (fun _ => ?_)
theorem basculeref01_Pack.mono : ∀ a0 k, LeO (basculeref01_Pack.f k a0) (basculeref01_Pack.f (k + 1) a0) := by
 intro a0 k
 obtain ⟨ih0, ih1⟩ := basculeref01_Pack.mono_l k
 unfold basculeref01_Pack.f
 repeat' first
  | (with_reducible exact ih0 _ _ _)
  | (with_reducible exact ih1 _ _ _ _ _ _)
  | (with_reducible exact LeO.refl _)
  | (with_reducible exact LeO.none _)
  | (with_reducible refine LeO.ite ?_ ?_)
  | (with_reducible refine LeO.bind ?_ (fun _ => ?_))
  | exact ih0 _ _ _
  | exact ih1 _ _ _ _ _ _
  | exact LeO.none _
  | refine LeO.ite ?_ ?_
  | refine LeO.bind ?_ (fun _ => ?_)
set_option maxHeartbeats 8000000 in
set_option maxRecDepth 100000 in
theorem basculeref01_Pack.calls (k : Nat) (A0 : Option Addr) (c0 : Nat) (l0 : List Int) (r : List Int) (w : World) (hr0 : Kd.C (Kd.int .i64) w A0 l0.length l0) (hc0 : l0.length ≤ c0) (h : basculeref01_Pack.f k l0 = some r) :
 Calls Try.prog 53 #[.slice A0 l0.length c0] w fun e w' => ∃ v0_ : Value, e = .returned (v0_) ∧ Kd.R (Kd.int .u8) 5 w' w.heap.size (fun _ => True) v0_ r ∧ Below w.heap.size w w' := by
 have HR0 := Aside0.mk hr0
 have HC0 := Aside0.mk hc0
 clear hr0 hc0
 have HB := Aside0.mk (Below.refl w.heap.size w)
 have H : (basculeref01_Pack.l0 k l0 ([] : List Int) 0) = some r := h
 clear h
 have H' := Aside0.mk H
 clear H
 go_enter Try.func53, Try.ntmps53
 go_wp2
 go_loopg [3, 4] k (fun kq v3 v4 w' => ∃ (x3_1 : List Int) (x4_1 : Int), v4 = .int .i64 x4_1 ∧ Aside0 (basculeref01_Pack.l0 kq l0 x3_1 x4_1 = some r) ∧ Aside0 (kq ≤ k) ∧ Aside0 (Kd.R (Kd.int .u8) 5 w' w.heap.size (fun _ => True) v3 x3_1) ∧ Aside0 (Below w.heap.size w w'))
 case atStart => exact ⟨(([] : List Int)), (0), (by first | rfl | (simp; done) | (simp [*]; done)), H', ⟨Nat.le_refl _⟩, ⟨by first | exact Kd.R_nil _ _ _ _ _ | exact Kd.N_nil _ _ _ _ _ | exact Kd.V_nil _ _ _ _ _ | exact Kd.Q_nil _ _ _ _ _ | exact Kd.S_nil _ _ _ _ _⟩, ⟨bl0_ HB⟩⟩
 case round =>
  clear H'
  obtain ⟨x3_1, x4_1, rfl, HA, HK1, HO_3, HB⟩ := hrel
  cases gk with
  | zero => exact absurd HA.out (by simp [basculeref01_Pack.l0])
  | succ k1 =>
   have H := HA.out
   clear HA
   simp only [basculeref01_Pack.l0] at H
   by_cases c2 : x4_1 < (l0.length : Int)
   ·rw [if_pos c2] at H
    have c2b0 : decide (x4_1 < (l0.length : Int)) = true := decide_eq_true c2
    clear c2
    have H' := Aside0.mk H
    clear H
    go_wp2
    go_loopg [5, 6, 7] k1 (fun kq v5 v6 v7 w' => ∃ (x5_2 : Int) (x6_2 : Int) (x7_2 : Int), v5 = .int .i64 x5_2 ∧ v6 = .int .i64 x6_2 ∧ v7 = .int .i64 x7_2 ∧ Aside0 (basculeref01_Pack.l1 kq l0 x3_1 x4_1 x5_2 x6_2 x7_2 = some r) ∧ Aside0 (kq ≤ k1) ∧ Aside0 (Kd.R (Kd.int .u8) 5 w' w.heap.size (fun _ => True) u3 x3_1) ∧ Aside0 (Below w.heap.size w w'))
    case atStart => exact ⟨(0), (1), (x4_1), (by first | rfl | (simp; done) | (simp [*]; done)), (by first | rfl | (simp; done) | (simp [*]; done)), (by first | rfl | (simp; done) | (simp [*]; done)), H', ⟨Nat.le_refl _⟩, ⟨kr_ HO_3⟩, ⟨bl0_ HB⟩⟩
    case round =>
     clear H'
     try clear c2
     try clear c2b0
     try clear p2
     obtain ⟨x5_2, x6_2, x7_2, rfl, rfl, rfl, HA, HK2, HO_3, HB⟩ := hrel
     cases gk with
     | zero => exact absurd HA.out (by simp [basculeref01_Pack.l1])
     | succ k2 =>
      have H := HA.out
      clear HA
      simp only [basculeref01_Pack.l1] at H
      by_cases c3 : x7_2 < (wrap64 (x4_1 + 8))
      ·rw [if_pos c3] at H
       have c3b0 : decide (x7_2 < (wrap64 (x4_1 + 8))) = true := decide_eq_true c3
       clear c3
       by_cases c4 : x7_2 < (l0.length : Int)
       ·rw [if_pos c4] at H
        have c4b0 : decide (x7_2 < (l0.length : Int)) = true := decide_eq_true c4
        clear c4
        by_cases c5 : 0 ≤ x7_2
        ·rw [if_pos c5] at H
         have c5b0 : decide (0 ≤ x7_2) = true := decide_eq_true c5
         clear c5
         have H' := Aside0.mk H
         clear H
         have p286 : 0 ≤ (x7_2 : Int) := of_decide_eq_true (by first | (with_reducible assumption) | assumption)
         have q286 : x7_2 < (l0.length : Int) := of_decide_eq_true (by first | (with_reducible assumption) | assumption)
         obtain ⟨ad286, e286, hx286_0⟩ := Kd.at_int HR0.out x7_2 p286 q286
         cases e286
         replace hx286_0 := (HB.out.cell (World.block_lt_of_cell? w _ hx286_0)).trans hx286_0
         replace p286 := eq_true p286
         replace q286 := eq_true q286
         go_wp2
         go_roundg k2
         case measure => have := HK1.out; have := HK2.out; omega
         case rel => exact ⟨(wrap64 (x5_2 + (wrap64 (x6_2 * (rd l0 x7_2))))), (wrap64 (2 * x6_2)), (wrap64 (x7_2 + 1)), (by first | rfl | (simp; done) | (simp [*]; done)), (by first | rfl | (simp; done) | (simp [*]; done)), (by first | rfl | (simp; done) | (simp [*]; done)), H', ⟨by have := HK1.out; have := HK2.out; omega⟩, ⟨kr_ HO_3⟩, ⟨bl0_ HB⟩⟩
        ·rw [if_neg c5] at H
         exact absurd H (by simp)
       ·rw [if_neg c4] at H
        have c4b0 : decide (x7_2 < (l0.length : Int)) = false := decide_eq_false c4
        clear c4
        by_cases c6 : x3_1.length < 140737488355328
        ·rw [if_pos c6] at H
         have LMc6 := Aside0.mk c6
         clear c6
         obtain ⟨y287, hy287⟩ : ∃ y_ : List Int, y_ = (x3_1 ++ [(x5_2) % 256]) := ⟨_, rfl⟩
         replace H : (basculeref01_Pack.l0 k2 l0 y287 (wrap64 (x4_1 + 8))) = some r := by first | (rw [hy287]; with_reducible exact H) | (have H2_ := (Option.bind_some _ _).symm.trans H; rw [hy287]; with_reducible exact H2_) | (have H2_ := (Option.bind_some _ _).symm.trans H; with_reducible exact H2_) | with_reducible exact H | (rw [hy287]; exact H) | exact H
         have Ny287 := Aside0.mk hy287
         clear hy287
         have H' := Aside0.mk H
         clear H
         go_wp2_with (first | ((with_reducible refine gate_builtin (b := .append) (xs := #[.tmp 37, .tmp 40]) rfl ?_); (try (refine gate_guard (by rfl) ?_; dsimp only)); at_builtin; refine Kd.R_append (Kd.int .u8) (w0 := w) w.heap.size rfl (.tmp 37) (.tmp 40) 43 5 (.int .u8 0) 1 rfl Try.underlying43 info5 rfl (by decide) (by omega) u3 x3_1 ((x5_2) % 256) [.int .u8 ((x5_2) % 256)] (fun _ => True) (fun _ => False) rfl rfl ?aP (fun _ hk => hk.elim) ?aF ?aO ?aB ?aS ?aL ?_; (case aP => exact rfl); (case aB => exact (bl0_ HB)); (case aF => exact (fun _ _ => trivial)); (case aO => exact (kr_ HO_3)); (case aS => exact (below_size (bl0_ HB))); (case aL => have := LMc6.out; omega); intro v288 w7 ho hb hg hat; rw [← Ny287.out] at ho; have n0_ := Aside0.mk (hb); have n1_ := Aside0.mk (ho); clear HB; clear HO_3; have HB := n0_; have HO289 := n1_; clear n0_ n1_; clear ho hb hg hat))
         go_roundg k2
         case measure => have := HK1.out; have := HK2.out; omega
         case rel => exact ⟨(y287), (wrap64 (x4_1 + 8)), (by first | rfl | (simp; done) | (simp [*]; done)), H', ⟨by have := HK1.out; have := HK2.out; omega⟩, ⟨kr_ HO289⟩, ⟨bl0_ HB⟩⟩
        ·rw [if_neg c6] at H
         exact absurd H (by simp)
      ·rw [if_neg c3] at H
       have c3b0 : decide (x7_2 < (wrap64 (x4_1 + 8))) = false := decide_eq_false c3
       clear c3
       by_cases c8 : x3_1.length < 140737488355328
       ·rw [if_pos c8] at H
        have LMc8 := Aside0.mk c8
        clear c8
        obtain ⟨y290, hy290⟩ : ∃ y_ : List Int, y_ = (x3_1 ++ [(x5_2) % 256]) := ⟨_, rfl⟩
        replace H : (basculeref01_Pack.l0 k2 l0 y290 (wrap64 (x4_1 + 8))) = some r := by first | (rw [hy290]; with_reducible exact H) | (have H2_ := (Option.bind_some _ _).symm.trans H; rw [hy290]; with_reducible exact H2_) | (have H2_ := (Option.bind_some _ _).symm.trans H; with_reducible exact H2_) | with_reducible exact H | (rw [hy290]; exact H) | exact H
        have Ny290 := Aside0.mk hy290
        clear hy290
        have H' := Aside0.mk H
        clear H
        go_wp2_with (first | ((with_reducible refine gate_builtin (b := .append) (xs := #[.tmp 37, .tmp 40]) rfl ?_); (try (refine gate_guard (by rfl) ?_; dsimp only)); at_builtin; refine Kd.R_append (Kd.int .u8) (w0 := w) w.heap.size rfl (.tmp 37) (.tmp 40) 43 5 (.int .u8 0) 1 rfl Try.underlying43 info5 rfl (by decide) (by omega) u3 x3_1 ((x5_2) % 256) [.int .u8 ((x5_2) % 256)] (fun _ => True) (fun _ => False) rfl rfl ?aP (fun _ hk => hk.elim) ?aF ?aO ?aB ?aS ?aL ?_; (case aP => exact rfl); (case aB => exact (bl0_ HB)); (case aF => exact (fun _ _ => trivial)); (case aO => exact (kr_ HO_3)); (case aS => exact (below_size (bl0_ HB))); (case aL => have := LMc8.out; omega); intro v291 w9 ho hb hg hat; rw [← Ny290.out] at ho; have n0_ := Aside0.mk (hb); have n1_ := Aside0.mk (ho); clear HB; clear HO_3; have HB := n0_; have HO292 := n1_; clear n0_ n1_; clear ho hb hg hat))
        go_roundg k2
        case measure => have := HK1.out; have := HK2.out; omega
        case rel => exact ⟨(y290), (wrap64 (x4_1 + 8)), (by first | rfl | (simp; done) | (simp [*]; done)), H', ⟨by have := HK1.out; have := HK2.out; omega⟩, ⟨kr_ HO292⟩, ⟨bl0_ HB⟩⟩
       ·rw [if_neg c8] at H
        exact absurd H (by simp)
   ·rw [if_neg c2] at H
    have c2b0 : decide (x4_1 < (l0.length : Int)) = false := decide_eq_false c2
    clear c2
    obtain rfl := Option.some.inj H
    go_wp2
    go_ret
    exact ⟨_, er_, kr_ HO_3, bl0_ HB⟩
end Go.Proofs.Ytlalpooiegganaa.PG
end

section
namespace Go.Proofs.Ytlalpooiegganaa.PG
open Go.RowKit Go.Proofs.YtlalpooiegganaaW.PrintWords Go.Proofs.YtlalpooiegganaaW.PrintLast Go.Proofs.YtlalpooiegganaaW.PrintMore
attribute [local go_sem] max2_int min2_int max_two min_two max_three min_three max_four min_four   
set_option linter.unusedVariables false
set_option linter.unusedSimpArgs false
open Go.Proofs.Ytlalpooiegganaa.Ext Go.Proofs.Ytlalpooiegganaa.PP Go.Proofs.Ytlalpooiegganaa.ExtF Go.Proofs.Ytlalpooiegganaa.ExtM
def basculeref01_Word.f (a0 : Int) : Option (List Int) := some (([(wrap64 (Int.tdiv a0 256)) % 256, (Int.tmod a0 256) % 256] : List Int))
set_option maxHeartbeats 8000000 in
set_option maxRecDepth 100000 in
theorem basculeref01_Word.calls (a0 : Int) (r : List Int) (w : World) (h : basculeref01_Word.f a0 = some r) :
 Calls Try.prog 66 #[.int .i64 a0] w fun e w' => ∃ v0_ : Value, e = .returned (v0_) ∧ Kd.R (Kd.int .u8) 5 w' w.heap.size (fun _ => True) v0_ r ∧ Below w.heap.size w w' := by
 have HB := Aside0.mk (Below.refl w.heap.size w)
 have H : (some (([(wrap64 (Int.tdiv a0 256)) % 256, (Int.tmod a0 256) % 256] : List Int))) = some r := h
 clear h
 obtain ⟨y293, hy293⟩ : ∃ y_ : List Int, y_ = (([(wrap64 (Int.tdiv a0 256)) % 256, (Int.tmod a0 256) % 256] : List Int)) := ⟨_, rfl⟩
 replace H : (some y293) = some r := by first | (rw [hy293]; with_reducible exact H) | (have H2_ := (Option.bind_some _ _).symm.trans H; rw [hy293]; with_reducible exact H2_) | (have H2_ := (Option.bind_some _ _).symm.trans H; with_reducible exact H2_) | with_reducible exact H | (rw [hy293]; exact H) | exact H
 have Ny293 := Aside0.mk hy293
 clear hy293
 obtain rfl := Option.some.inj H
 go_enter Try.func66, Try.ntmps66
 go_wp2_with (first | ((with_reducible refine gate_dst (N := 9) rfl ?_); refine Kd.R_lit (Kd.int .u8) _ 5 ?hg (N := 9) ?hd (xs := ([(wrap64 (Int.tdiv a0 256)) % 256, (Int.tmod a0 256) % 256] : List Int)) (inner := [.int .u8 ((wrap64 (Int.tdiv a0 256)) % 256), .int .u8 ((Int.tmod a0 256) % 256)]) (ok := fun _ => True) (okp := fun _ => True) ?hr ?hp (fun _ hk => hk) trivial (Below.refl _ _) (Nat.le_refl _) (by simp) ?_; (case hd => rfl); (case hg => rfl); (case hr => first | (go_simp; done) | (go_simp; rfl)); (case hp => exact (Reps.one (show Kd.M (Kd.int .u8) _ _ _ ((wrap64 (Int.tdiv a0 256)) % 256) [.int .u8 ((wrap64 (Int.tdiv a0 256)) % 256)] from rfl) (Reps.one (show Kd.M (Kd.int .u8) _ _ _ ((Int.tmod a0 256) % 256) [.int .u8 ((Int.tmod a0 256) % 256)] from rfl) (Reps.none _ _)))); intro v294 w2 ho3 hb hg_ hnew_; clear hg_ hnew_; (first | rw [← Ny293.out] at ho3 | (simp only [Int.reduceToNat] at ho3; rw [← Ny293.out] at ho3)); have n0_ := Aside0.mk (Kd.R_lower ho3 (below_size (bl0_ HB))); have n1_ := Aside0.mk (below_step (bl0_ HB) hb); clear HB; have HO295 := n0_; have HB := n1_; clear n0_ n1_; clear hb ho3))
 go_ret
 exact ⟨_, er_, kr_ HO295, bl0_ HB⟩
end Go.Proofs.Ytlalpooiegganaa.PG
end

section
namespace Go.Proofs.Ytlalpooiegganaa.PG
open Go.RowKit Go.Proofs.YtlalpooiegganaaW.PrintWords Go.Proofs.YtlalpooiegganaaW.PrintLast Go.Proofs.YtlalpooiegganaaW.PrintMore
attribute [local go_sem] max2_int min2_int max_two min_two max_three min_three max_four min_four   
set_option linter.unusedVariables false
set_option linter.unusedSimpArgs false
open Go.Proofs.Ytlalpooiegganaa.Ext Go.Proofs.Ytlalpooiegganaa.PP Go.Proofs.Ytlalpooiegganaa.ExtF Go.Proofs.Ytlalpooiegganaa.ExtM
def basculeref03_lay.l0 : Nat → List Int → List Int → Int → Option (List Int)
 | 0, _, _, _ => none
 | k + 1, x0, x3, x4 => if x4 < (x0.length : Int) then (if 0 ≤ x4 then ((basculeref01_Word.f (rd x0 x4)).bind fun t297 => (if x3.length + t297.length < 140737488355328 then (basculeref03_lay.l0 k x0 (x3 ++ t297) (wrap64 (x4 + 1))) else (none))) else (none)) else (some x3)
def basculeref03_lay.f (k : Nat) (l0 : List Int) : Option (List Int) := basculeref03_lay.l0 k l0 ([] : List Int) 0
theorem basculeref03_lay.mono_l : ∀ k, (∀ y0 y1 y2, LeO (basculeref03_lay.l0 k y0 y1 y2) (basculeref03_lay.l0 (k + 1) y0 y1 y2))
 | 0 => fun _ _ _ r h => by simp [basculeref03_lay.l0] at h
 | k + 1 => by
  have ih0 := basculeref03_lay.mono_l k
  ·intro y0 y1 y2
   unfold basculeref03_lay.l0
   repeat' first
   | (with_reducible exact ih0 _ _ _)
   | (with_reducible exact LeO.refl _)
   | (with_reducible exact LeO.none _)
   | (with_reducible refine LeO.ite ?_ ?_)
   | (with_reducible refine LeO.bind ?_ (fun _ => ?_))
   | exact ih0 _ _ _
   | exact LeO.none _
   | refine LeO.ite ?_ ?_
   | refine LeO.bind ?_ (fun _ => ?_)
theorem basculeref03_lay.mono : ∀ a0 k, LeO (basculeref03_lay.f k a0) (basculeref03_lay.f (k + 1) a0) := by
 intro a0 k
 have ih0 := basculeref03_lay.mono_l k
 unfold basculeref03_lay.f
 repeat' first
  | (with_reducible exact ih0 _ _ _)
  | (with_reducible exact LeO.refl _)
  | (with_reducible exact LeO.none _)
  | (with_reducible refine LeO.ite ?_ ?_)
  | (with_reducible refine LeO.bind ?_ (fun _ => ?_))
  | exact ih0 _ _ _
  | exact LeO.none _
  | refine LeO.ite ?_ ?_
  | refine LeO.bind ?_ (fun _ => ?_)
set_option maxHeartbeats 8000000 in
set_option maxRecDepth 100000 in
theorem basculeref03_lay.calls (k : Nat) (A0 : Option Addr) (c0 : Nat) (l0 : List Int) (r : List Int) (w : World) (hr0 : Kd.C (Kd.int .i64) w A0 l0.length l0) (hc0 : l0.length ≤ c0) (h : basculeref03_lay.f k l0 = some r) :
 Calls Try.prog 54 #[.slice A0 l0.length c0] w fun e w' => ∃ v0_ : Value, e = .returned (v0_) ∧ Kd.R (Kd.int .u8) 5 w' w.heap.size (fun _ => True) v0_ r ∧ Below w.heap.size w w' := by
 have HR0 := Aside0.mk hr0
 have HC0 := Aside0.mk hc0
 clear hr0 hc0
 have HB := Aside0.mk (Below.refl w.heap.size w)
 have H : (basculeref03_lay.l0 k l0 ([] : List Int) 0) = some r := h
 clear h
 have H' := Aside0.mk H
 clear H
 go_enter Try.func54, Try.ntmps54
 go_wp2
 go_loopg [3, 4] k (fun kq v3 v4 w' => ∃ (x3_1 : List Int) (x4_1 : Int), v4 = .int .i64 x4_1 ∧ Aside0 (basculeref03_lay.l0 kq l0 x3_1 x4_1 = some r) ∧ Aside0 (kq ≤ k) ∧ Aside0 (Kd.R (Kd.int .u8) 5 w' w.heap.size (fun _ => True) v3 x3_1) ∧ Aside0 (Below w.heap.size w w'))
 case atStart => exact ⟨(([] : List Int)), (0), (by first | rfl | (simp; done) | (simp [*]; done)), H', ⟨Nat.le_refl _⟩, ⟨by first | exact Kd.R_nil _ _ _ _ _ | exact Kd.N_nil _ _ _ _ _ | exact Kd.V_nil _ _ _ _ _ | exact Kd.Q_nil _ _ _ _ _ | exact Kd.S_nil _ _ _ _ _⟩, ⟨bl0_ HB⟩⟩
 case round =>
  clear H'
  obtain ⟨x3_1, x4_1, rfl, HA, HK1, HO_3, HB⟩ := hrel
  cases gk with
  | zero => exact absurd HA.out (by simp [basculeref03_lay.l0])
  | succ k1 =>
   have H := HA.out
   clear HA
   simp only [basculeref03_lay.l0] at H
   by_cases c2 : x4_1 < (l0.length : Int)
   ·rw [if_pos c2] at H
    have c2b0 : decide (x4_1 < (l0.length : Int)) = true := decide_eq_true c2
    clear c2
    by_cases c3 : 0 ≤ x4_1
    ·rw [if_pos c3] at H
     have c3b0 : decide (0 ≤ x4_1) = true := decide_eq_true c3
     clear c3
     replace H := Option.bind_eq_some_iff.mp H
     obtain ⟨t297, A40, H⟩ := H
     replace H : (if x3_1.length + t297.length < 140737488355328 then (basculeref03_lay.l0 k1 l0 (x3_1 ++ t297) (wrap64 (x4_1 + 1))) else (none)) = some r := H
     have A4 := Aside0.mk A40
     clear A40
     by_cases c5 : x3_1.length + t297.length < 140737488355328
     ·rw [if_pos c5] at H
      have LMc5 := Aside0.mk c5
      clear c5
      obtain ⟨y300, hy300⟩ : ∃ y_ : List Int, y_ = (x3_1 ++ t297) := ⟨_, rfl⟩
      replace H : (basculeref03_lay.l0 k1 l0 y300 (wrap64 (x4_1 + 1))) = some r := by first | (rw [hy300]; with_reducible exact H) | (have H2_ := (Option.bind_some _ _).symm.trans H; rw [hy300]; with_reducible exact H2_) | (have H2_ := (Option.bind_some _ _).symm.trans H; with_reducible exact H2_) | with_reducible exact H | (rw [hy300]; exact H) | exact H
      have Ny300 := Aside0.mk hy300
      clear hy300
      have H' := Aside0.mk H
      clear H
      have p296 : 0 ≤ (x4_1 : Int) := of_decide_eq_true (by first | (with_reducible assumption) | assumption)
      have q296 : x4_1 < (l0.length : Int) := of_decide_eq_true (by first | (with_reducible assumption) | assumption)
      obtain ⟨ad296, e296, hx296_0⟩ := Kd.at_int HR0.out x4_1 p296 q296
      cases e296
      replace hx296_0 := (HB.out.cell (World.block_lt_of_cell? w _ hx296_0)).trans hx296_0
      replace p296 := eq_true p296
      replace q296 := eq_true q296
      go_wp2_with (first | ((with_reducible refine gate_callee (f := 66) rfl ?_); refine goesL_ (some 16) rfl rfl Try.func66 (by kernel_rfl) rfl #[.int .i64 (rd l0 x4_1)] rfl ar_ ?_; (with_reducible refine (basculeref01_Word.calls (rd l0 x4_1) t297 _ A4.out).mono ?_); rintro e w6 ⟨v298, rfl, ho0, hb⟩; refine ⟨_, rfl, ?_⟩; have n0_ := Aside0.mk (Kd.R_elder' (kr_ HO_3) (Kd.R_base ho0) hb); have n1_ := Aside0.mk (Kd.R_lower (Kd.R_new' ho0 (Kd.R_lt (kr_ HO_3))) (below_size (bl0_ HB))); have n2_ := Aside0.mk (below_step (bl0_ HB) hb); clear HO_3; clear HB; have HO_3 := n0_; have HO299 := n1_; have HB := n2_; clear n0_ n1_ n2_; (try clear hb); (try clear hb2); (try clear hk); (try clear hi); (try clear ho0); obtain ⟨Ao8, co8, eo8⟩ := Kd.R_slice HO299.out; subst eo8) | ((with_reducible refine gate_builtin (b := .append) (xs := #[.tmp 11, .tmp 16]) rfl ?_); at_builtin; refine Kd.R_append_rows (Kd.int .u8) (w0 := w) w.heap.size rfl (.tmp 11) (.tmp 16) 43 5 (.int .u8 0) 1 rfl Try.underlying43 info5 rfl (by decide) (by omega) u3 x3_1 t297 _ _ _ (fun k_ => some k_ ≠ (.slice Ao8 t297.length co8 : Value).ownBlock) (fun _ => False) rfl rfl ?aO ?aR (fun _ _ h => h) (fun _ h => h.elim) ?aF ?aB ?aS ?aL ?_; (case aR => exact sc_ (Kd.R_reads' HO299.out).2.2); (case aB => exact (bl0_ HB)); (case aF => exact (fun k_ hk => Kd.fresh' (Kd.R_lt (kr_ HO299)) k_ hk)); (case aO => exact (by (with_reducible repeat (first | apply Kd.R_alloc | apply Kd.R_drewN | apply Kd.R_drew)); exact Kd.R_mono HO_3.out (fun _ hk => hk.2))); (case aS => exact (below_size (bl0_ HB))); (case aL => have := LMc5.out; omega); intro v301 w7 ho hb hg hat; rw [← Ny300.out] at ho; have n0_ := Aside0.mk (Kd.R_after (ok := (fun _ => True)) (kr_ HO299) hg hat); have n1_ := Aside0.mk (hb); have n2_ := Aside0.mk (ho); clear HO299; clear HB; clear HO_3; have HO299 := n0_; have HB := n1_; have HO302 := n2_; clear n0_ n1_ n2_; clear ho hb hg hat))
      go_roundg k1
      case measure => have := HK1.out; omega
      case rel => exact ⟨(y300), (wrap64 (x4_1 + 1)), (by first | rfl | (simp; done) | (simp [*]; done)), H', ⟨by have := HK1.out; omega⟩, ⟨by (with_reducible repeat (first | apply Kd.R_alloc | apply Kd.R_drewN | apply Kd.R_drew)); exact Kd.R_mono HO302.out (fun _ hk => trivial)⟩, ⟨bl0_ HB⟩⟩
     ·rw [if_neg c5] at H
      exact absurd H (by simp)
    ·rw [if_neg c3] at H
     exact absurd H (by simp)
   ·rw [if_neg c2] at H
    have c2b0 : decide (x4_1 < (l0.length : Int)) = false := decide_eq_false c2
    clear c2
    obtain rfl := Option.some.inj H
    go_wp2
    go_ret
    exact ⟨_, er_, kr_ HO_3, bl0_ HB⟩
end Go.Proofs.Ytlalpooiegganaa.PG
end

section
namespace Go.Proofs.Ytlalpooiegganaa.PG
open Go.RowKit Go.Proofs.YtlalpooiegganaaW.PrintWords Go.Proofs.YtlalpooiegganaaW.PrintLast Go.Proofs.YtlalpooiegganaaW.PrintMore
attribute [local go_sem] max2_int min2_int max_two min_two max_three min_three max_four min_four   
set_option linter.unusedVariables false
set_option linter.unusedSimpArgs false
open Go.Proofs.Ytlalpooiegganaa.Ext Go.Proofs.Ytlalpooiegganaa.PP Go.Proofs.Ytlalpooiegganaa.ExtF Go.Proofs.Ytlalpooiegganaa.ExtM
def basculeref03_Bytes.j0 : Nat → List Int → Int → Bool → Int → Int → Int → List Int → Int → Int → Int → Option (List Int)
 | 0, _, _, _, _, _, _, _, _, _, _ => none
 | k + 1, x3, x9, x10, x304000, x304001, x304002, x304003, x304004, x304005, x304006 => if x10 = true then (none) else (if x9 = 5 then (if 0 < (x304003.length : Int) then ((basculeref03_lay.f k (([x304001, wrap64 (65280 * (rd x304003 0))] : List Int))).bind fun t320 => (if x3.length + t320.length < 140737488355328 then (some (x3 ++ t320)) else (none))) else (none)) else (if x9 = 6 then (if 0 < (x304003.length : Int) then ((basculeref03_lay.f k (([x304001, rd x304003 0] : List Int))).bind fun t330 => (if x3.length + t330.length < 140737488355328 then (some (x3 ++ t330)) else (none))) else (none)) else (if x9 = 15 then (none) else (if x9 = 16 then (none) else (if x9 = 22 then ((basculeref03_lay.f k (([x304001, x304005, x304006] : List Int))).bind fun t375 => (if x3.length + t375.length < 140737488355328 then (some (x3 ++ t375)) else (none))) else (none))))))
def basculeref03_Bytes.f (k : Nat) (a0_0 : Int) (a0_1 : Int) (a0_2 : Int) (l0_3 : List Int) (a0_4 : Int) (a0_5 : Int) (a0_6 : Int) : Option (List Int) := (some (([(a0_0) % 256] : List Int) : List Int)).bind fun y304 => (if a0_0 = 1 then (basculeref03_Bytes.j0 k y304 a0_0 (a0_0 == 1) a0_0 a0_1 a0_2 l0_3 a0_4 a0_5 a0_6) else (if a0_0 = 2 then (basculeref03_Bytes.j0 k y304 a0_0 (a0_0 == 2) a0_0 a0_1 a0_2 l0_3 a0_4 a0_5 a0_6) else (if a0_0 = 3 then (basculeref03_Bytes.j0 k y304 a0_0 (a0_0 == 3) a0_0 a0_1 a0_2 l0_3 a0_4 a0_5 a0_6) else (basculeref03_Bytes.j0 k y304 a0_0 (a0_0 == 4) a0_0 a0_1 a0_2 l0_3 a0_4 a0_5 a0_6))))
theorem basculeref03_Bytes.mono_l : ∀ k, (∀ y0 y1 y2 y3 y4 y5 y6 y7 y8 y9, LeO (basculeref03_Bytes.j0 k y0 y1 y2 y3 y4 y5 y6 y7 y8 y9) (basculeref03_Bytes.j0 (k + 1) y0 y1 y2 y3 y4 y5 y6 y7 y8 y9))
 | 0 => fun _ _ _ _ _ _ _ _ _ _ r h => by simp [basculeref03_Bytes.j0] at h
 | k + 1 => by
  have ih0 := basculeref03_Bytes.mono_l k
  ·intro y0 y1 y2 y3 y4 y5 y6 y7 y8 y9
   unfold basculeref03_Bytes.j0
   repeat' first
   | (with_reducible exact ih0 _ _ _ _ _ _ _ _ _ _)
   | (with_reducible exact basculeref01_Pack.mono _ _)
   | (with_reducible exact basculeref03_lay.mono _ _)
   | (with_reducible exact LeO.refl _)
   | (with_reducible exact LeO.none _)
   | (with_reducible refine LeO.ite ?_ ?_)
   | (with_reducible refine LeO.bind ?_ (fun _ => ?_))
   | exact ih0 _ _ _ _ _ _ _ _ _ _
   | exact basculeref01_Pack.mono _ _
   | exact basculeref03_lay.mono _ _
   | exact LeO.none _
   | refine LeO.ite ?_ ?_
   | refine LeO.bind ?_ (fun _ => ?_)
theorem basculeref03_Bytes.mono : ∀ a0 a1 a2 a3 a4 a5 a6 k, LeO (basculeref03_Bytes.f k a0 a1 a2 a3 a4 a5 a6) (basculeref03_Bytes.f (k + 1) a0 a1 a2 a3 a4 a5 a6) := by
 intro a0 a1 a2 a3 a4 a5 a6 k
 have ih0 := basculeref03_Bytes.mono_l k
 unfold basculeref03_Bytes.f
 repeat' first
  | (with_reducible exact ih0 _ _ _ _ _ _ _ _ _ _)
  | (with_reducible exact basculeref01_Pack.mono _ _)
  | (with_reducible exact basculeref03_lay.mono _ _)
  | (with_reducible exact LeO.refl _)
  | (with_reducible exact LeO.none _)
  | (with_reducible refine LeO.ite ?_ ?_)
  | (with_reducible refine LeO.bind ?_ (fun _ => ?_))
  | exact ih0 _ _ _ _ _ _ _ _ _ _
  | exact basculeref01_Pack.mono _ _
  | exact basculeref03_lay.mono _ _
  | exact LeO.none _
  | refine LeO.ite ?_ ?_
  | refine LeO.bind ?_ (fun _ => ?_)
def basculeref03_Bytes.T10 : Bool × List (List Nat × List Nat) := (true, [([], []), ([], []), ([1], [1]), ([], []), ([3], [3]), ([4], [4]), ([5], [5]), ([6], [6]), ([2, 7], [2, 7]), ([8], [8]), ([0, 9, 9], [0, 9]), ([10, 10, 0, 1, 2, 3, 4, 5, 6, 7, 8, 9, 10], [0, 10])])
def basculeref03_Bytes.B10 : List Nat := [0, 0, 2, 0, 8, 24, 56, 120, 254, 510, 1023, 2047]
theorem basculeref03_Bytes.tab10 : rtab .any (opsOf Try.f55 10) = basculeref03_Bytes.T10 := by kernel_rfl
theorem basculeref03_Bytes.bits10 : waitsOk basculeref03_Bytes.T10.2 basculeref03_Bytes.B10 = true := by kernel_rfl
def basculeref03_Bytes.T13 : Bool × List (List Nat × List Nat) := (true, [([], []), ([], []), ([1], [1]), ([], []), ([3], [3]), ([4], [4]), ([5], [5]), ([2, 6], [2, 6]), ([7], [7]), ([0, 8, 8], [0, 8]), ([9, 9, 0, 1, 2, 3, 4, 5, 6, 7, 8, 9], [0, 9])])
def basculeref03_Bytes.B13 : List Nat := [0, 0, 2, 0, 8, 24, 56, 126, 254, 511, 1023]
theorem basculeref03_Bytes.tab13 : rtab .any (opsOf Try.f55 13) = basculeref03_Bytes.T13 := by kernel_rfl
theorem basculeref03_Bytes.bits13 : waitsOk basculeref03_Bytes.T13.2 basculeref03_Bytes.B13 = true := by kernel_rfl
set_option maxHeartbeats 8000000 in
set_option maxRecDepth 100000 in
theorem basculeref03_Bytes.calls (k : Nat) (a0_0 : Int) (a0_1 : Int) (a0_2 : Int) (A0_3 : Option Addr) (c0_3 : Nat) (l0_3 : List Int) (a0_4 : Int) (a0_5 : Int) (a0_6 : Int) (r : List Int) (w : World) (hr0_3 : Kd.C (Kd.int .i64) w A0_3 l0_3.length l0_3) (hc0_3 : l0_3.length ≤ c0_3) (h : basculeref03_Bytes.f k a0_0 a0_1 a0_2 l0_3 a0_4 a0_5 a0_6 = some r) :
 Calls Try.prog 55 #[.agg #[.int .i64 a0_0, .int .i64 a0_1, .int .i64 a0_2, .slice A0_3 l0_3.length c0_3, .int .i64 a0_4, .int .i64 a0_5, .int .i64 a0_6]] w fun e w' => ∃ v0_ : Value, e = .returned (v0_) ∧ Kd.R (Kd.int .u8) 5 w' w.heap.size (fun _ => True) v0_ r ∧ Below w.heap.size w w' := by
 have hu31 := Try.underlying31
 have HR0_3 := Aside0.mk hr0_3
 have HC0_3 := Aside0.mk hc0_3
 clear hr0_3 hc0_3
 have HB := Aside0.mk (Below.refl w.heap.size w)
 have H : ((some (([(a0_0) % 256] : List Int) : List Int)).bind fun y304 => (if a0_0 = 1 then (basculeref03_Bytes.j0 k y304 a0_0 (a0_0 == 1) a0_0 a0_1 a0_2 l0_3 a0_4 a0_5 a0_6) else (if a0_0 = 2 then (basculeref03_Bytes.j0 k y304 a0_0 (a0_0 == 2) a0_0 a0_1 a0_2 l0_3 a0_4 a0_5 a0_6) else (if a0_0 = 3 then (basculeref03_Bytes.j0 k y304 a0_0 (a0_0 == 3) a0_0 a0_1 a0_2 l0_3 a0_4 a0_5 a0_6) else (basculeref03_Bytes.j0 k y304 a0_0 (a0_0 == 4) a0_0 a0_1 a0_2 l0_3 a0_4 a0_5 a0_6))))) = some r := h
 clear h
 obtain ⟨y304, hy304⟩ : ∃ y_ : List Int, y_ = (([(a0_0) % 256] : List Int)) := ⟨_, rfl⟩
 replace H : (if a0_0 = 1 then (basculeref03_Bytes.j0 k y304 a0_0 (a0_0 == 1) a0_0 a0_1 a0_2 l0_3 a0_4 a0_5 a0_6) else (if a0_0 = 2 then (basculeref03_Bytes.j0 k y304 a0_0 (a0_0 == 2) a0_0 a0_1 a0_2 l0_3 a0_4 a0_5 a0_6) else (if a0_0 = 3 then (basculeref03_Bytes.j0 k y304 a0_0 (a0_0 == 3) a0_0 a0_1 a0_2 l0_3 a0_4 a0_5 a0_6) else (basculeref03_Bytes.j0 k y304 a0_0 (a0_0 == 4) a0_0 a0_1 a0_2 l0_3 a0_4 a0_5 a0_6)))) = some r := by first | (rw [hy304]; with_reducible exact H) | (have H2_ := (Option.bind_some _ _).symm.trans H; rw [hy304]; with_reducible exact H2_) | (have H2_ := (Option.bind_some _ _).symm.trans H; with_reducible exact H2_) | with_reducible exact H | (rw [hy304]; exact H) | exact H
 have Ny304 := Aside0.mk hy304
 clear hy304
 have HC2 := Aside0.mk H
 clear H
 go_enter Try.func55, Try.ntmps55
 go_upto_if 10 with (first | ((with_reducible refine gate_dst (N := 1) rfl ?_); refine bx_ (N := 1) (cs := #[.int .i64 a0_0, .int .i64 a0_1, .int .i64 a0_2, .slice A0_3 l0_3.length c0_3, .int .i64 a0_4, .int .i64 a0_5, .int .i64 a0_6]) (t := 31) ?_; intro gb303 hg w3 hbox hb; have n0_ := Aside0.mk (below_step (bl0_ HB) hb); have n1_ := Aside0.mk (hbox); have n2_ := Aside0.mk ((by rw [hg]; exact (below_size (bl0_ HB)) : w.heap.size ≤ gb303)); have n3_ := Aside0.mk ((by rw [hg]; exact (below_size (bl0_ HB)) : w.heap.size ≤ gb303)); clear HB; have HB := n0_; have BK303 := n1_; have GW303 := n2_; have GE303 := n3_; clear n0_ n1_ n2_ n3_; clear hb hbox hg; refine cz7_ BK303.out ?_; intro hcz4_0 hcz4_1 hcz4_2 hcz4_3 hcz4_4 hcz4_5 hcz4_6 hfz4_0 hfz4_1 hfz4_2 hfz4_3 hfz4_4 hfz4_5 hfz4_6) | ((with_reducible refine gate_dst (N := 7) rfl ?_); refine Kd.R_lit (Kd.int .u8) _ 5 ?hg (N := 7) ?hd (xs := ([(a0_0) % 256] : List Int)) (inner := [.int .u8 ((a0_0) % 256)]) (ok := fun _ => True) (okp := fun _ => True) ?hr ?hp (fun _ hk => hk) trivial (Below.refl _ _) (Nat.le_refl _) (by simp) ?_; (case hd => rfl); (case hg => rfl); (case hr => first | (go_simp; done) | (go_simp; rfl)); (case hp => exact (Reps.one (show Kd.M (Kd.int .u8) _ _ _ ((a0_0) % 256) [.int .u8 ((a0_0) % 256)] from rfl) (Reps.none _ _))); intro v305 w5 ho6 hb hg_ hnew_; clear hg_ hnew_; (first | rw [← Ny304.out] at ho6 | (simp only [Int.reduceToNat] at ho6; rw [← Ny304.out] at ho6)); have n0_ := Aside0.mk (Kd.R_lower ho6 (below_size (bl1_ HB GE303))); have n1_ := Aside0.mk (blk_below (g := gb303) (bk_ BK303) hb); have n2_ := Aside0.mk (below_step (bl1_ HB GE303) hb); clear BK303; clear HB; have HO306 := n0_; have BK303 := n1_; have HB := n2_; clear n0_ n1_ n2_; clear hb ho6; refine cz7_ BK303.out ?_; intro hcz7_0 hcz7_1 hcz7_2 hcz7_3 hcz7_4 hcz7_5 hcz7_6 hfz7_0 hfz7_1 hfz7_2 hfz7_3 hfz7_4 hfz7_5 hfz7_6))
 (try simp only [Act.put, List.setIfInBounds_toArray, List.set_cons_zero, List.set_cons_succ])
 go_cut [10] (fun v10 wc => ∃ (kq : Nat) (x10_1 : Bool), v10 = .bool x10_1 ∧ Aside0 (basculeref03_Bytes.j0 kq y304 a0_0 x10_1 a0_0 a0_1 a0_2 l0_3 a0_4 a0_5 a0_6 = some r) ∧ Aside0 (kq ≤ k) ∧ Aside0 (Kd.R (Kd.int .u8) 5 wc w.heap.size (fun _ => True) v305 y304) ∧ Aside0 (wc.heap[gb303]? = some (.cells #[.int .i64 a0_0, .int .i64 a0_1, .int .i64 a0_2, (.slice A0_3 l0_3.length c0_3), .int .i64 a0_4, .int .i64 a0_5, .int .i64 a0_6] 31 (0, 0))) ∧ Aside0 (Below w.heap.size w wc))
 case first =>
  have H := HC2.out
  clear HC2
  by_cases c8 : a0_0 = 1
  ·rw [if_pos c8] at H
   have c8b0 : (a0_0 == 1) = true := beq_iff_eq.mpr c8
   have c8b1 : (a0_0 != 1) = false := bne_eq_false_iff_eq.mpr c8
   clear c8
   (first | rw [c8b0] | (simp only [i64_w, i32_w]; rw [c8b0]) | skip)
   have H' := Aside0.mk H
   clear H
   go_wp2
   go_meet
   case rel => exact ⟨_, ((a0_0 == 1)), (by first | rfl | (simp; done) | (simp [*]; done)), H', ⟨by first | omega | exact Nat.le_refl _⟩, ⟨kr_ HO306⟩, ⟨bk_ BK303⟩, ⟨bl1_ HB GE303⟩⟩
  ·rw [if_neg c8] at H
   have c8b0 : (a0_0 == 1) = false := beq_eq_false_iff_ne.mpr c8
   have c8b1 : (a0_0 != 1) = true := bne_iff_ne.mpr c8
   (first | rw [c8b0] | (simp only [i64_w, i32_w]; rw [c8b0]) | skip)
   by_cases c9 : a0_0 = 2
   ·rw [if_pos c9] at H
    have c9b0 : (a0_0 == 2) = true := beq_iff_eq.mpr c9
    have c9b1 : (a0_0 != 2) = false := bne_eq_false_iff_eq.mpr c9
    clear c9
    have H' := Aside0.mk H
    clear H
    go_wp2
    go_meet
    case rel => exact ⟨_, ((a0_0 == 2)), (by first | rfl | (simp; done) | (simp [*]; done)), H', ⟨by first | omega | exact Nat.le_refl _⟩, ⟨kr_ HO306⟩, ⟨bk_ BK303⟩, ⟨bl1_ HB GE303⟩⟩
   ·rw [if_neg c9] at H
    have c9b0 : (a0_0 == 2) = false := beq_eq_false_iff_ne.mpr c9
    have c9b1 : (a0_0 != 2) = true := bne_iff_ne.mpr c9
    by_cases c10 : a0_0 = 3
    ·rw [if_pos c10] at H
     have c10b0 : (a0_0 == 3) = true := beq_iff_eq.mpr c10
     have c10b1 : (a0_0 != 3) = false := bne_eq_false_iff_eq.mpr c10
     clear c10
     have H' := Aside0.mk H
     clear H
     go_wp2
     go_meet
     case rel => exact ⟨_, ((a0_0 == 3)), (by first | rfl | (simp; done) | (simp [*]; done)), H', ⟨by first | omega | exact Nat.le_refl _⟩, ⟨kr_ HO306⟩, ⟨bk_ BK303⟩, ⟨bl1_ HB GE303⟩⟩
    ·rw [if_neg c10] at H
     have c10b0 : (a0_0 == 3) = false := beq_eq_false_iff_ne.mpr c10
     have c10b1 : (a0_0 != 3) = true := bne_iff_ne.mpr c10
     have H' := Aside0.mk H
     clear H
     go_wp2
     go_meet
     case rel => exact ⟨_, ((a0_0 == 4)), (by first | rfl | (simp; done) | (simp [*]; done)), H', ⟨by first | omega | exact Nat.le_refl _⟩, ⟨kr_ HO306⟩, ⟨bk_ BK303⟩, ⟨bl1_ HB GE303⟩⟩
 case rest =>
  clear HC2
  try clear c1
  try clear p2
  try clear c5
  try clear c8
  try clear c8b0
  try clear c8b1
  try clear c9
  try clear c9b0
  try clear c9b1
  try clear c10
  try clear c10b0
  try clear c10b1
  try clear hcz4_0 hcz4_1 hcz4_2 hcz4_3 hcz4_4 hcz4_5 hcz4_6
  try clear hcz7_0 hcz7_1 hcz7_2 hcz7_3 hcz7_4 hcz7_5 hcz7_6
  try clear hfz4_0 hfz4_1 hfz4_2 hfz4_3 hfz4_4 hfz4_5 hfz4_6
  try clear hfz7_0 hfz7_1 hfz7_2 hfz7_3 hfz7_4 hfz7_5 hfz7_6
  obtain ⟨kq, x10_1, rfl, HA, HJ1, HO_3, BK303, HB⟩ := hcut
  cases kq with
  | zero => exact absurd HA.out (by simp [basculeref03_Bytes.j0])
  | succ kj1 =>
   have H := HA.out
   clear HA
   simp only [basculeref03_Bytes.j0] at H
   by_cases c11 : x10_1 = true
   ·subst c11
    exact absurd H (by simp)
   ·replace c11 := Bool.eq_false_iff.mpr c11
    subst c11
    have H1 : (if a0_0 = 5 then (if 0 < (l0_3.length : Int) then ((basculeref03_lay.f kj1 (([a0_1, wrap64 (65280 * (rd l0_3 0))] : List Int))).bind fun t320 => (if y304.length + t320.length < 140737488355328 then (some (y304 ++ t320)) else (none))) else (none)) else (if a0_0 = 6 then (if 0 < (l0_3.length : Int) then ((basculeref03_lay.f kj1 (([a0_1, rd l0_3 0] : List Int))).bind fun t330 => (if y304.length + t330.length < 140737488355328 then (some (y304 ++ t330)) else (none))) else (none)) else (if a0_0 = 15 then (none) else (if a0_0 = 16 then (none) else (if a0_0 = 22 then ((basculeref03_lay.f kj1 (([a0_1, a0_5, a0_6] : List Int))).bind fun t375 => (if y304.length + t375.length < 140737488355328 then (some (y304 ++ t375)) else (none))) else (none)))))) = some r := by rw [if_neg (show ¬ (false = true) by decide)] at H; exact H
    clear H
    have H := H1
    clear H1
    by_cases c21 : a0_0 = 5
    ·rw [if_pos c21] at H
     have c21b0 : (a0_0 == 5) = true := beq_iff_eq.mpr c21
     have c21b1 : (a0_0 != 5) = false := bne_eq_false_iff_eq.mpr c21
     clear c21
     by_cases c22 : 0 < (l0_3.length : Int)
     ·rw [if_pos c22] at H
      have c22b0 : decide (0 < (l0_3.length : Int)) = true := decide_eq_true c22
      have c22b1 : decide (0 < l0_3.length) = true := decide_eq_true (by omega)
      clear c22
      obtain ⟨y317, hy317⟩ : ∃ y_ : List Int, y_ = (([a0_1, wrap64 (65280 * (rd l0_3 0))] : List Int)) := ⟨_, rfl⟩
      replace H : ((basculeref03_lay.f kj1 y317).bind fun t320 => (if y304.length + t320.length < 140737488355328 then (some (y304 ++ t320)) else (none))) = some r := by first | (rw [hy317]; with_reducible exact H) | (have H2_ := (Option.bind_some _ _).symm.trans H; rw [hy317]; with_reducible exact H2_) | (have H2_ := (Option.bind_some _ _).symm.trans H; with_reducible exact H2_) | with_reducible exact H | (rw [hy317]; exact H) | exact H
      have Ny317 := Aside0.mk hy317
      clear hy317
      replace H := Option.bind_eq_some_iff.mp H
      obtain ⟨t320, A230, H⟩ := H
      replace H : (if y304.length + t320.length < 140737488355328 then (some (y304 ++ t320)) else (none)) = some r := H
      have A23 := Aside0.mk A230
      clear A230
      by_cases c24 : y304.length + t320.length < 140737488355328
      ·rw [if_pos c24] at H
       have LMc24 := Aside0.mk c24
       clear c24
       obtain ⟨y323, hy323⟩ : ∃ y_ : List Int, y_ = (y304 ++ t320) := ⟨_, rfl⟩
       replace H : (some y323) = some r := by first | (rw [hy323]; with_reducible exact H) | (have H2_ := (Option.bind_some _ _).symm.trans H; rw [hy323]; with_reducible exact H2_) | (have H2_ := (Option.bind_some _ _).symm.trans H; with_reducible exact H2_) | with_reducible exact H | (rw [hy323]; exact H) | exact H
       have Ny323 := Aside0.mk hy323
       clear hy323
       obtain rfl := Option.some.inj H
       try go_wp2
       have n0_ := Aside0.mk (Kd.R_drew HO_3.out)
       have n1_ := Aside0.mk (blk_drew BK303.out)
       have n2_ := Aside0.mk (below_drew1 HB.out)
       clear HO_3
       clear BK303
       clear HB
       have HO_3 := n0_
       have BK303 := n1_
       have HB := n2_
       clear n0_ n1_ n2_
       have p316 : 0 ≤ (0 : Int) := (by omega)
       have q316 : 0 < (l0_3.length : Int) := of_decide_eq_true (by first | (with_reducible assumption) | assumption)
       obtain ⟨ad316, e316, hx316_0⟩ := Kd.at_int HR0_3.out 0 p316 q316
       have hw316_0 := hx316_0
       (try rw [show ((0 : Int)).toNat = 0 from rfl] at hw316_0)
       (try rw [show 0 * 1 = 0 from rfl] at hw316_0)
       (try rw [Addr.add_zero'] at hw316_0)
       cases e316
       have qi316 : (0 < l0_3.length) = True := eq_true (by omega)
       (try rw [show ((0 : Int)).toNat = 0 from rfl] at hx316_0)
       (try rw [Addr.add_zero'] at hx316_0)
       replace hx316_0 := (HB.out.cell (World.block_lt_of_cell? w _ hx316_0)).trans hx316_0
       replace p316 := eq_true p316
       replace q316 := eq_true q316
       refine start_ (n := 12) (S := fun w' => w'.cell? ⟨gb303, 0, none⟩ = some (.int .i64 a0_0) ∧ w'.cell? ⟨gb303, 1, none⟩ = some (.int .i64 a0_1) ∧ w'.cell? ⟨gb303, 2, none⟩ = some (.int .i64 a0_2) ∧ w'.cell? ⟨gb303, 3, none⟩ = some (.slice (some ad316) l0_3.length c0_3) ∧ w'.cell? ⟨gb303, 4, none⟩ = some (.int .i64 a0_4) ∧ w'.cell? ⟨gb303, 5, none⟩ = some (.int .i64 a0_5) ∧ w'.cell? ⟨gb303, 6, none⟩ = some (.int .i64 a0_6) ∧ w'.cell? ad316 = some (.int .i64 (rd l0_3 0))) (ds := []) #[false, false, false, false, false, false, false, false, false, false, false, false] (by kernel_rfl) rfl rfl ⟨(blk_cell BK303.out 0).trans rfl, (blk_cell BK303.out 1).trans rfl, (blk_cell BK303.out 2).trans rfl, (blk_cell BK303.out 3).trans rfl, (blk_cell BK303.out 4).trans rfl, (blk_cell BK303.out 5).trans rfl, (blk_cell BK303.out 6).trans rfl, ((HB.out.cell (World.block_lt_of_cell? w _ hw316_0)).trans hw316_0)⟩ (fun hHeld => ?_); refine with_tabW basculeref03_Bytes.tab10 basculeref03_Bytes.bits10 (fun HT_ HW_ => ?_)
       generalize wc.drew = w25 at HO_3 BK303 HB hx316_0 hHeld ⊢
       refine pure_ (i := 0) (N := some 26) (v := ?_) (a' := ?_) #[true, false, false, false, false, false, false, false, false, false, false, false] rfl rfl (any_of HT_.out (by kernel_rfl)) (fun _ _ _ h => h) (Or.inl ⟨by rfl, ?_⟩) ?_ ?_
       rotate_left
       ·intro w'
        go_simp
        with_reducible rfl
       rotate_left
       ·simp only [Act.put, List.setIfInBounds_toArray, List.set_cons_zero, List.set_cons_succ, i64_w, i32_w]
        rfl
       refine pure_ (i := 1) (N := some 27) (v := ?_) (a' := ?_) #[true, true, false, false, false, false, false, false, false, false, false, false] rfl rfl (any_of HT_.out (by kernel_rfl)) (fun _ _ _ h => h) (Or.inl ⟨by rfl, ?_⟩) ?_ ?_
       rotate_left
       ·intro w'
        go_simp
        with_reducible rfl
       rotate_left
       ·simp only [Act.put, List.setIfInBounds_toArray, List.set_cons_zero, List.set_cons_succ, i64_w, i32_w]
        rfl
       refine pure_ (i := 3) (N := some 29) (v := ?_) (a' := ?_) #[true, true, false, true, false, false, false, false, false, false, false, false] rfl rfl (any_of HT_.out (by kernel_rfl)) (fun _ _ _ h => h) (Or.inl ⟨by rfl, ?_⟩) ?_ ?_
       rotate_left
       ·intro w'
        go_simp
        with_reducible rfl
       rotate_left
       ·simp only [Act.put, List.setIfInBounds_toArray, List.set_cons_zero, List.set_cons_succ, i64_w, i32_w]
        rfl
       refine take_ (i := 2) (N := some 28) (v := ?_) (a' := ?_) #[true, true, true, true, false, false, false, false, false, false, false, false] rfl rfl (take_ofW HT_.out HW_.out (by kernel_rfl)) (fun _ _ _ h => h) (Or.inl ⟨by rfl, ?_⟩) hHeld ?_ ?_
       rotate_left
       ·rintro w' ⟨s0, s1, s2, s3, s4, s5, s6, s7⟩
        go_simp
        with_reducible rfl
       rotate_left
       ·simp only [Act.put, List.setIfInBounds_toArray, List.set_cons_zero, List.set_cons_succ, i64_w, i32_w]
        rfl
       refine take_ (i := 4) (N := some 30) (v := ?_) (a' := ?_) #[true, true, true, true, true, false, false, false, false, false, false, false] rfl rfl (take_ofW HT_.out HW_.out (by kernel_rfl)) (fun _ _ _ h => h) (Or.inl ⟨by rfl, ?_⟩) hHeld ?_ ?_
       rotate_left
       ·rintro w' ⟨s0, s1, s2, s3, s4, s5, s6, s7⟩
        go_simp
        with_reducible rfl
       rotate_left
       ·simp only [Act.put, List.setIfInBounds_toArray, List.set_cons_zero, List.set_cons_succ, i64_w, i32_w]
        rfl
       refine pure_ (i := 5) (N := some 31) (v := ?_) (a' := ?_) #[true, true, true, true, true, true, false, false, false, false, false, false] rfl rfl (any_of HT_.out (by kernel_rfl)) (fun _ _ _ h => h) (Or.inl ⟨by rfl, ?_⟩) ?_ ?_
       rotate_left
       ·intro w'
        go_simp
        with_reducible rfl
       rotate_left
       ·simp only [Act.put, List.setIfInBounds_toArray, List.set_cons_zero, List.set_cons_succ, i64_w, i32_w]
        rfl
       refine take_ (i := 6) (N := some 32) (v := ?_) (a' := ?_) #[true, true, true, true, true, true, true, false, false, false, false, false] rfl rfl (take_ofW HT_.out HW_.out (by kernel_rfl)) (fun _ _ _ h => h) (Or.inl ⟨by rfl, ?_⟩) hHeld ?_ ?_
       rotate_left
       ·rintro w' ⟨s0, s1, s2, s3, s4, s5, s6, s7⟩
        go_simp
        with_reducible rfl
       rotate_left
       ·simp only [Act.put, List.setIfInBounds_toArray, List.set_cons_zero, List.set_cons_succ, i64_w, i32_w]
        rfl
       refine pure_ (i := 7) (N := some 33) (v := ?_) (a' := ?_) #[true, true, true, true, true, true, true, true, false, false, false, false] rfl rfl (any_of HT_.out (by kernel_rfl)) (fun _ _ _ h => h) (Or.inl ⟨by rfl, ?_⟩) ?_ ?_
       rotate_left
       ·intro w'
        go_simp
        with_reducible rfl
       rotate_left
       ·simp only [Act.put, List.setIfInBounds_toArray, List.set_cons_zero, List.set_cons_succ, i64_w, i32_w]
        rfl
       refine one_ (i := 8) (N := some 34) #[true, true, true, true, true, true, true, true, true, false, false, false] rfl rfl (one_of HT_.out (by kernel_rfl)) (by decide) (fun K hK => ?_)
       refine Kd.R_lit_step (Kd.int .i64) _ 3 ?hg (N := 34) ?hd (xs := ([a0_1, wrap64 (65280 * (rd l0_3 0))] : List Int)) (inner := [.int .i64 a0_1, .int .i64 (wrap64 (65280 * (rd l0_3 0)))]) (ok := fun _ => True) (okp := fun _ => True) ?hr ?hp (fun _ hk => hk) trivial (Below.refl _ _) (Nat.le_refl _) (by simp) ?_; (case hd => rfl); (case hg => rfl); (case hr => first | (go_simp; done) | (go_simp; rfl)); (case hp => exact (Reps.one (show Kd.M (Kd.int .i64) _ _ _ a0_1 [.int .i64 a0_1] from rfl) (Reps.one (show Kd.M (Kd.int .i64) _ _ _ (wrap64 (65280 * (rd l0_3 0))) [.int .i64 (wrap64 (65280 * (rd l0_3 0)))] from rfl) (Reps.none _ _))))
       intro v318 w26 ho27 hb hg_ hnew_
       clear hg_ hnew_
       (first | rw [← Ny317.out] at ho27 | (simp only [Int.reduceToNat] at ho27; rw [← Ny317.out] at ho27))
       have n0_ := Aside0.mk (Kd.R_below (kr_ HO_3) hb)
       have n1_ := Aside0.mk (Kd.R_lower ho27 (below_size (bl1_ HB GE303)))
       have n2_ := Aside0.mk (blk_below (g := gb303) (bk_ BK303) hb)
       have n3_ := Aside0.mk (below_step (bl1_ HB GE303) hb)
       clear HO_3
       clear BK303
       clear HB
       have HO_3 := n0_
       have HO319 := n1_
       have BK303 := n2_
       have HB := n3_
       clear n0_ n1_ n2_ n3_
       clear hb ho27
       obtain ⟨Ao28, co28, eo28⟩ := Kd.R_slice HO319.out
       (first | subst eo28 | (injection eo28 with f1_ f2_ f3_; have f4_ := f1_.symm; have f5_ := f3_.symm; clear f1_ f2_ f3_; subst f4_; subst f5_))
       refine hK.out _ _ ⟨(blk_cell BK303.out 0).trans rfl, (blk_cell BK303.out 1).trans rfl, (blk_cell BK303.out 2).trans rfl, (blk_cell BK303.out 3).trans rfl, (blk_cell BK303.out 4).trans rfl, (blk_cell BK303.out 5).trans rfl, (blk_cell BK303.out 6).trans rfl, ((HB.out.cell (World.block_lt_of_cell? w _ hw316_0)).trans hw316_0)⟩ (fun hHeld => ?_)
       clear hK K
       refine norm_ (a' := ?_) ?_ ?_
       rotate_left
       ·show Act.put _ (some 34) _ = _
        simp only [Act.put, List.setIfInBounds_toArray, List.set_cons_zero, List.set_cons_succ, i64_w, i32_w]
        rfl
       refine one_ (i := 9) (N := some 35) #[true, true, true, true, true, true, true, true, true, true, false, false] rfl rfl (one_of HT_.out (by kernel_rfl)) (by decide) (fun K hK => ?_)
       refine goes_ Try.func54 (by kernel_rfl) rfl #[.slice Ao28 y317.length co28] (by rfl) rfl rfl ar_ ?_
       with_reducible refine (basculeref03_lay.calls kj1 _ _ y317 t320 _ ?side1 ?side2 A23.out).mono ?_
       (case side1 => exact sc_ (Kd.R_reads' HO319.out).2.2)
       (case side2 => exact (Kd.R_reads' HO319.out).2.1)
       rintro e w29 ⟨v321, rfl, ho0, hb⟩
       refine ⟨_, rfl, ?_⟩
       have n0_ := Aside0.mk (Kd.R_elder' (kr_ HO_3) (Kd.R_base ho0) hb)
       have n1_ := Aside0.mk (Kd.R_below (kr_ HO319) hb)
       have n2_ := Aside0.mk (Kd.R_lower (Kd.R_new' ho0 (Kd.R_lt (kr_ HO_3))) (below_size (bl1_ HB GE303)))
       have n3_ := Aside0.mk (blk_below (g := gb303) (bk_ BK303) hb)
       have n4_ := Aside0.mk (below_step (bl1_ HB GE303) hb)
       clear HO_3
       clear HO319
       clear BK303
       clear HB
       have HO_3 := n0_
       have HO319 := n1_
       have HO322 := n2_
       have BK303 := n3_
       have HB := n4_
       clear n0_ n1_ n2_ n3_ n4_
       (try clear hb)
       (try clear hb2)
       (try clear hk)
       (try clear hi)
       (try clear ho0)
       obtain ⟨Ao31, co31, eo31⟩ := Kd.R_slice HO322.out
       (first | subst eo31 | (injection eo31 with f1_ f2_ f3_; have f4_ := f1_.symm; have f5_ := f3_.symm; clear f1_ f2_ f3_; subst f4_; subst f5_))
       refine hK.out _ _ ⟨(blk_cell BK303.out 0).trans rfl, (blk_cell BK303.out 1).trans rfl, (blk_cell BK303.out 2).trans rfl, (blk_cell BK303.out 3).trans rfl, (blk_cell BK303.out 4).trans rfl, (blk_cell BK303.out 5).trans rfl, (blk_cell BK303.out 6).trans rfl, ((HB.out.cell (World.block_lt_of_cell? w _ hw316_0)).trans hw316_0)⟩ (fun hHeld => ?_)
       clear hK K
       refine norm_ (a' := ?_) ?_ ?_
       rotate_left
       ·show Act.put _ (some 35) _ = _
        simp only [Act.put, List.setIfInBounds_toArray, List.set_cons_zero, List.set_cons_succ, i64_w, i32_w]
        rfl
       refine one_ (i := 10) (N := some 36) #[true, true, true, true, true, true, true, true, true, true, true, false] rfl rfl (one_of HT_.out (by kernel_rfl)) (by decide) (fun K hK => ?_)
       refine Kd.R_append_rows_step (Kd.int .u8) (w0 := w) w.heap.size (by rfl) (.tmp 26) (.tmp 35) 43 5 (.int .u8 0) 1 rfl Try.underlying43 info5 rfl (by decide) (by omega) v305 y304 t320 _ _ _ (fun k_ => some k_ ≠ (.slice Ao31 t320.length co31 : Value).ownBlock) (fun _ => False) rfl rfl ?aO ?aR (fun _ _ h => h) (fun _ h => h.elim) ?aF ?aB ?aS ?aL ?_
       (case aR => exact sc_ (Kd.R_reads' HO322.out).2.2)
       (case aB => exact (bl1_ HB GE303))
       (case aF => exact (fun k_ hk => Kd.fresh' (Kd.R_lt (kr_ HO322)) k_ hk))
       (case aO => exact (by (with_reducible repeat (first | apply Kd.R_alloc | apply Kd.R_drewN | apply Kd.R_drew)); exact Kd.R_mono HO_3.out (fun _ hk => hk.2)))
       (case aS => exact (below_size (bl1_ HB GE303)))
       (case aL => have := LMc24.out; omega)
       intro v324 w30 ho hb hg hat
       rw [← Ny323.out] at ho
       have n0_ := Aside0.mk (blk_grown (g := gb303) (bk_ BK303) hg (Kd.R_ne HO_3.out BK303.out (by decide)))
       have n1_ := Aside0.mk (Kd.R_over' (kr_ HO319) (Kd.R_typed (kr_ HO_3)) (by decide) hg)
       have n2_ := Aside0.mk (Kd.R_after (ok := (fun _ => True)) (kr_ HO322) hg hat)
       have n3_ := Aside0.mk (hb)
       have n4_ := Aside0.mk (ho)
       clear BK303
       clear HO319
       clear HO322
       clear HB
       clear HO_3
       have BK303 := n0_
       have HO319 := n1_
       have HO322 := n2_
       have HB := n3_
       have HO325 := n4_
       clear n0_ n1_ n2_ n3_ n4_
       clear ho hb hg hat
       refine hK.out _ _ ⟨(blk_cell BK303.out 0).trans rfl, (blk_cell BK303.out 1).trans rfl, (blk_cell BK303.out 2).trans rfl, (blk_cell BK303.out 3).trans rfl, (blk_cell BK303.out 4).trans rfl, (blk_cell BK303.out 5).trans rfl, (blk_cell BK303.out 6).trans rfl, ((HB.out.cell (World.block_lt_of_cell? w _ hw316_0)).trans hw316_0)⟩ (fun hHeld => ?_)
       clear hK K
       refine norm_ (a' := ?_) ?_ ?_
       rotate_left
       ·show Act.put _ (some 36) _ = _
        simp only [Act.put, List.setIfInBounds_toArray, List.set_cons_zero, List.set_cons_succ, i64_w, i32_w]
        rfl
       refine pure_ (i := 11) (N := some 3) (v := ?_) (a' := ?_) #[true, true, true, true, true, true, true, true, true, true, true, true] rfl rfl (any_of HT_.out (by kernel_rfl)) (fun _ _ _ h => h) (Or.inl ⟨by rfl, ?_⟩) ?_ ?_
       rotate_left
       ·intro w'
        go_simp
        with_reducible rfl
       rotate_left
       ·simp only [Act.put, List.setIfInBounds_toArray, List.set_cons_zero, List.set_cons_succ, i64_w, i32_w]
        rfl
       refine done_ (done_of HT_.out (by kernel_rfl)) ?_
       try go_wp2
       go_ret
       exact ⟨_, er_, by (with_reducible repeat (first | apply Kd.R_alloc | apply Kd.R_drewN | apply Kd.R_drew)); exact Kd.R_mono HO325.out (fun _ hk => trivial), bl1_ HB GE303⟩
      ·rw [if_neg c24] at H
       exact absurd H (by simp)
     ·rw [if_neg c22] at H
      exact absurd H (by simp)
    ·rw [if_neg c21] at H
     have c21b0 : (a0_0 == 5) = false := beq_eq_false_iff_ne.mpr c21
     have c21b1 : (a0_0 != 5) = true := bne_iff_ne.mpr c21
     by_cases c32 : a0_0 = 6
     ·rw [if_pos c32] at H
      have c32b0 : (a0_0 == 6) = true := beq_iff_eq.mpr c32
      have c32b1 : (a0_0 != 6) = false := bne_eq_false_iff_eq.mpr c32
      clear c32
      by_cases c33 : 0 < (l0_3.length : Int)
      ·rw [if_pos c33] at H
       have c33b0 : decide (0 < (l0_3.length : Int)) = true := decide_eq_true c33
       have c33b1 : decide (0 < l0_3.length) = true := decide_eq_true (by omega)
       clear c33
       obtain ⟨y327, hy327⟩ : ∃ y_ : List Int, y_ = (([a0_1, rd l0_3 0] : List Int)) := ⟨_, rfl⟩
       replace H : ((basculeref03_lay.f kj1 y327).bind fun t330 => (if y304.length + t330.length < 140737488355328 then (some (y304 ++ t330)) else (none))) = some r := by first | (rw [hy327]; with_reducible exact H) | (have H2_ := (Option.bind_some _ _).symm.trans H; rw [hy327]; with_reducible exact H2_) | (have H2_ := (Option.bind_some _ _).symm.trans H; with_reducible exact H2_) | with_reducible exact H | (rw [hy327]; exact H) | exact H
       have Ny327 := Aside0.mk hy327
       clear hy327
       replace H := Option.bind_eq_some_iff.mp H
       obtain ⟨t330, A340, H⟩ := H
       replace H : (if y304.length + t330.length < 140737488355328 then (some (y304 ++ t330)) else (none)) = some r := H
       have A34 := Aside0.mk A340
       clear A340
       by_cases c35 : y304.length + t330.length < 140737488355328
       ·rw [if_pos c35] at H
        have LMc35 := Aside0.mk c35
        clear c35
        obtain ⟨y333, hy333⟩ : ∃ y_ : List Int, y_ = (y304 ++ t330) := ⟨_, rfl⟩
        replace H : (some y333) = some r := by first | (rw [hy333]; with_reducible exact H) | (have H2_ := (Option.bind_some _ _).symm.trans H; rw [hy333]; with_reducible exact H2_) | (have H2_ := (Option.bind_some _ _).symm.trans H; with_reducible exact H2_) | with_reducible exact H | (rw [hy333]; exact H) | exact H
        have Ny333 := Aside0.mk hy333
        clear hy333
        obtain rfl := Option.some.inj H
        try go_wp2
        have n0_ := Aside0.mk (Kd.R_drew HO_3.out)
        have n1_ := Aside0.mk (blk_drew BK303.out)
        have n2_ := Aside0.mk (below_drew1 HB.out)
        clear HO_3
        clear BK303
        clear HB
        have HO_3 := n0_
        have BK303 := n1_
        have HB := n2_
        clear n0_ n1_ n2_
        have p326 : 0 ≤ (0 : Int) := (by omega)
        have q326 : 0 < (l0_3.length : Int) := of_decide_eq_true (by first | (with_reducible assumption) | assumption)
        obtain ⟨ad326, e326, hx326_0⟩ := Kd.at_int HR0_3.out 0 p326 q326
        have hw326_0 := hx326_0
        (try rw [show ((0 : Int)).toNat = 0 from rfl] at hw326_0)
        (try rw [show 0 * 1 = 0 from rfl] at hw326_0)
        (try rw [Addr.add_zero'] at hw326_0)
        cases e326
        have qi326 : (0 < l0_3.length) = True := eq_true (by omega)
        (try rw [show ((0 : Int)).toNat = 0 from rfl] at hx326_0)
        (try rw [Addr.add_zero'] at hx326_0)
        replace hx326_0 := (HB.out.cell (World.block_lt_of_cell? w _ hx326_0)).trans hx326_0
        replace p326 := eq_true p326
        replace q326 := eq_true q326
        refine start_ (n := 11) (S := fun w' => w'.cell? ⟨gb303, 0, none⟩ = some (.int .i64 a0_0) ∧ w'.cell? ⟨gb303, 1, none⟩ = some (.int .i64 a0_1) ∧ w'.cell? ⟨gb303, 2, none⟩ = some (.int .i64 a0_2) ∧ w'.cell? ⟨gb303, 3, none⟩ = some (.slice (some ad326) l0_3.length c0_3) ∧ w'.cell? ⟨gb303, 4, none⟩ = some (.int .i64 a0_4) ∧ w'.cell? ⟨gb303, 5, none⟩ = some (.int .i64 a0_5) ∧ w'.cell? ⟨gb303, 6, none⟩ = some (.int .i64 a0_6) ∧ w'.cell? ad326 = some (.int .i64 (rd l0_3 0))) (ds := []) #[false, false, false, false, false, false, false, false, false, false, false] (by kernel_rfl) rfl rfl ⟨(blk_cell BK303.out 0).trans rfl, (blk_cell BK303.out 1).trans rfl, (blk_cell BK303.out 2).trans rfl, (blk_cell BK303.out 3).trans rfl, (blk_cell BK303.out 4).trans rfl, (blk_cell BK303.out 5).trans rfl, (blk_cell BK303.out 6).trans rfl, ((HB.out.cell (World.block_lt_of_cell? w _ hw326_0)).trans hw326_0)⟩ (fun hHeld => ?_); refine with_tabW basculeref03_Bytes.tab13 basculeref03_Bytes.bits13 (fun HT_ HW_ => ?_)
        generalize wc.drew = w36 at HO_3 BK303 HB hx326_0 hHeld ⊢
        refine pure_ (i := 0) (N := some 40) (v := ?_) (a' := ?_) #[true, false, false, false, false, false, false, false, false, false, false] rfl rfl (any_of HT_.out (by kernel_rfl)) (fun _ _ _ h => h) (Or.inl ⟨by rfl, ?_⟩) ?_ ?_
        rotate_left
        ·intro w'
         go_simp
         with_reducible rfl
        rotate_left
        ·simp only [Act.put, List.setIfInBounds_toArray, List.set_cons_zero, List.set_cons_succ, i64_w, i32_w]
         rfl
        refine pure_ (i := 1) (N := some 41) (v := ?_) (a' := ?_) #[true, true, false, false, false, false, false, false, false, false, false] rfl rfl (any_of HT_.out (by kernel_rfl)) (fun _ _ _ h => h) (Or.inl ⟨by rfl, ?_⟩) ?_ ?_
        rotate_left
        ·intro w'
         go_simp
         with_reducible rfl
        rotate_left
        ·simp only [Act.put, List.setIfInBounds_toArray, List.set_cons_zero, List.set_cons_succ, i64_w, i32_w]
         rfl
        refine pure_ (i := 3) (N := some 43) (v := ?_) (a' := ?_) #[true, true, false, true, false, false, false, false, false, false, false] rfl rfl (any_of HT_.out (by kernel_rfl)) (fun _ _ _ h => h) (Or.inl ⟨by rfl, ?_⟩) ?_ ?_
        rotate_left
        ·intro w'
         go_simp
         with_reducible rfl
        rotate_left
        ·simp only [Act.put, List.setIfInBounds_toArray, List.set_cons_zero, List.set_cons_succ, i64_w, i32_w]
         rfl
        refine take_ (i := 2) (N := some 42) (v := ?_) (a' := ?_) #[true, true, true, true, false, false, false, false, false, false, false] rfl rfl (take_ofW HT_.out HW_.out (by kernel_rfl)) (fun _ _ _ h => h) (Or.inl ⟨by rfl, ?_⟩) hHeld ?_ ?_
        rotate_left
        ·rintro w' ⟨s0, s1, s2, s3, s4, s5, s6, s7⟩
         go_simp
         with_reducible rfl
        rotate_left
        ·simp only [Act.put, List.setIfInBounds_toArray, List.set_cons_zero, List.set_cons_succ, i64_w, i32_w]
         rfl
        refine take_ (i := 4) (N := some 44) (v := ?_) (a' := ?_) #[true, true, true, true, true, false, false, false, false, false, false] rfl rfl (take_ofW HT_.out HW_.out (by kernel_rfl)) (fun _ _ _ h => h) (Or.inl ⟨by rfl, ?_⟩) hHeld ?_ ?_
        rotate_left
        ·rintro w' ⟨s0, s1, s2, s3, s4, s5, s6, s7⟩
         go_simp
         with_reducible rfl
        rotate_left
        ·simp only [Act.put, List.setIfInBounds_toArray, List.set_cons_zero, List.set_cons_succ, i64_w, i32_w]
         rfl
        refine pure_ (i := 5) (N := some 45) (v := ?_) (a' := ?_) #[true, true, true, true, true, true, false, false, false, false, false] rfl rfl (any_of HT_.out (by kernel_rfl)) (fun _ _ _ h => h) (Or.inl ⟨by rfl, ?_⟩) ?_ ?_
        rotate_left
        ·intro w'
         go_simp
         with_reducible rfl
        rotate_left
        ·simp only [Act.put, List.setIfInBounds_toArray, List.set_cons_zero, List.set_cons_succ, i64_w, i32_w]
         rfl
        refine take_ (i := 6) (N := some 46) (v := ?_) (a' := ?_) #[true, true, true, true, true, true, true, false, false, false, false] rfl rfl (take_ofW HT_.out HW_.out (by kernel_rfl)) (fun _ _ _ h => h) (Or.inl ⟨by rfl, ?_⟩) hHeld ?_ ?_
        rotate_left
        ·rintro w' ⟨s0, s1, s2, s3, s4, s5, s6, s7⟩
         go_simp
         with_reducible rfl
        rotate_left
        ·simp only [Act.put, List.setIfInBounds_toArray, List.set_cons_zero, List.set_cons_succ, i64_w, i32_w]
         rfl
        refine one_ (i := 7) (N := some 47) #[true, true, true, true, true, true, true, true, false, false, false] rfl rfl (one_of HT_.out (by kernel_rfl)) (by decide) (fun K hK => ?_)
        refine Kd.R_lit_step (Kd.int .i64) _ 3 ?hg (N := 47) ?hd (xs := ([a0_1, rd l0_3 0] : List Int)) (inner := [.int .i64 a0_1, .int .i64 (rd l0_3 0)]) (ok := fun _ => True) (okp := fun _ => True) ?hr ?hp (fun _ hk => hk) trivial (Below.refl _ _) (Nat.le_refl _) (by simp) ?_; (case hd => rfl); (case hg => rfl); (case hr => first | (go_simp; done) | (go_simp; rfl)); (case hp => exact (Reps.one (show Kd.M (Kd.int .i64) _ _ _ a0_1 [.int .i64 a0_1] from rfl) (Reps.one (show Kd.M (Kd.int .i64) _ _ _ (rd l0_3 0) [.int .i64 (rd l0_3 0)] from rfl) (Reps.none _ _))))
        intro v328 w37 ho38 hb hg_ hnew_
        clear hg_ hnew_
        (first | rw [← Ny327.out] at ho38 | (simp only [Int.reduceToNat] at ho38; rw [← Ny327.out] at ho38))
        have n0_ := Aside0.mk (Kd.R_below (kr_ HO_3) hb)
        have n1_ := Aside0.mk (Kd.R_lower ho38 (below_size (bl1_ HB GE303)))
        have n2_ := Aside0.mk (blk_below (g := gb303) (bk_ BK303) hb)
        have n3_ := Aside0.mk (below_step (bl1_ HB GE303) hb)
        clear HO_3
        clear BK303
        clear HB
        have HO_3 := n0_
        have HO329 := n1_
        have BK303 := n2_
        have HB := n3_
        clear n0_ n1_ n2_ n3_
        clear hb ho38
        obtain ⟨Ao39, co39, eo39⟩ := Kd.R_slice HO329.out
        (first | subst eo39 | (injection eo39 with f1_ f2_ f3_; have f4_ := f1_.symm; have f5_ := f3_.symm; clear f1_ f2_ f3_; subst f4_; subst f5_))
        refine hK.out _ _ ⟨(blk_cell BK303.out 0).trans rfl, (blk_cell BK303.out 1).trans rfl, (blk_cell BK303.out 2).trans rfl, (blk_cell BK303.out 3).trans rfl, (blk_cell BK303.out 4).trans rfl, (blk_cell BK303.out 5).trans rfl, (blk_cell BK303.out 6).trans rfl, ((HB.out.cell (World.block_lt_of_cell? w _ hw326_0)).trans hw326_0)⟩ (fun hHeld => ?_)
        clear hK K
        refine norm_ (a' := ?_) ?_ ?_
        rotate_left
        ·show Act.put _ (some 47) _ = _
         simp only [Act.put, List.setIfInBounds_toArray, List.set_cons_zero, List.set_cons_succ, i64_w, i32_w]
         rfl
        refine one_ (i := 8) (N := some 48) #[true, true, true, true, true, true, true, true, true, false, false] rfl rfl (one_of HT_.out (by kernel_rfl)) (by decide) (fun K hK => ?_)
        refine goes_ Try.func54 (by kernel_rfl) rfl #[.slice Ao39 y327.length co39] (by rfl) rfl rfl ar_ ?_
        with_reducible refine (basculeref03_lay.calls kj1 _ _ y327 t330 _ ?side1 ?side2 A34.out).mono ?_
        (case side1 => exact sc_ (Kd.R_reads' HO329.out).2.2)
        (case side2 => exact (Kd.R_reads' HO329.out).2.1)
        rintro e w40 ⟨v331, rfl, ho0, hb⟩
        refine ⟨_, rfl, ?_⟩
        have n0_ := Aside0.mk (Kd.R_elder' (kr_ HO_3) (Kd.R_base ho0) hb)
        have n1_ := Aside0.mk (Kd.R_below (kr_ HO329) hb)
        have n2_ := Aside0.mk (Kd.R_lower (Kd.R_new' ho0 (Kd.R_lt (kr_ HO_3))) (below_size (bl1_ HB GE303)))
        have n3_ := Aside0.mk (blk_below (g := gb303) (bk_ BK303) hb)
        have n4_ := Aside0.mk (below_step (bl1_ HB GE303) hb)
        clear HO_3
        clear HO329
        clear BK303
        clear HB
        have HO_3 := n0_
        have HO329 := n1_
        have HO332 := n2_
        have BK303 := n3_
        have HB := n4_
        clear n0_ n1_ n2_ n3_ n4_
        (try clear hb)
        (try clear hb2)
        (try clear hk)
        (try clear hi)
        (try clear ho0)
        obtain ⟨Ao42, co42, eo42⟩ := Kd.R_slice HO332.out
        (first | subst eo42 | (injection eo42 with f1_ f2_ f3_; have f4_ := f1_.symm; have f5_ := f3_.symm; clear f1_ f2_ f3_; subst f4_; subst f5_))
        refine hK.out _ _ ⟨(blk_cell BK303.out 0).trans rfl, (blk_cell BK303.out 1).trans rfl, (blk_cell BK303.out 2).trans rfl, (blk_cell BK303.out 3).trans rfl, (blk_cell BK303.out 4).trans rfl, (blk_cell BK303.out 5).trans rfl, (blk_cell BK303.out 6).trans rfl, ((HB.out.cell (World.block_lt_of_cell? w _ hw326_0)).trans hw326_0)⟩ (fun hHeld => ?_)
        clear hK K
        refine norm_ (a' := ?_) ?_ ?_
        rotate_left
        ·show Act.put _ (some 48) _ = _
         simp only [Act.put, List.setIfInBounds_toArray, List.set_cons_zero, List.set_cons_succ, i64_w, i32_w]
         rfl
        refine one_ (i := 9) (N := some 49) #[true, true, true, true, true, true, true, true, true, true, false] rfl rfl (one_of HT_.out (by kernel_rfl)) (by decide) (fun K hK => ?_)
        refine Kd.R_append_rows_step (Kd.int .u8) (w0 := w) w.heap.size (by rfl) (.tmp 40) (.tmp 48) 43 5 (.int .u8 0) 1 rfl Try.underlying43 info5 rfl (by decide) (by omega) v305 y304 t330 _ _ _ (fun k_ => some k_ ≠ (.slice Ao42 t330.length co42 : Value).ownBlock) (fun _ => False) rfl rfl ?aO ?aR (fun _ _ h => h) (fun _ h => h.elim) ?aF ?aB ?aS ?aL ?_
        (case aR => exact sc_ (Kd.R_reads' HO332.out).2.2)
        (case aB => exact (bl1_ HB GE303))
        (case aF => exact (fun k_ hk => Kd.fresh' (Kd.R_lt (kr_ HO332)) k_ hk))
        (case aO => exact (by (with_reducible repeat (first | apply Kd.R_alloc | apply Kd.R_drewN | apply Kd.R_drew)); exact Kd.R_mono HO_3.out (fun _ hk => hk.2)))
        (case aS => exact (below_size (bl1_ HB GE303)))
        (case aL => have := LMc35.out; omega)
        intro v334 w41 ho hb hg hat
        rw [← Ny333.out] at ho
        have n0_ := Aside0.mk (blk_grown (g := gb303) (bk_ BK303) hg (Kd.R_ne HO_3.out BK303.out (by decide)))
        have n1_ := Aside0.mk (Kd.R_over' (kr_ HO329) (Kd.R_typed (kr_ HO_3)) (by decide) hg)
        have n2_ := Aside0.mk (Kd.R_after (ok := (fun _ => True)) (kr_ HO332) hg hat)
        have n3_ := Aside0.mk (hb)
        have n4_ := Aside0.mk (ho)
        clear BK303
        clear HO329
        clear HO332
        clear HB
        clear HO_3
        have BK303 := n0_
        have HO329 := n1_
        have HO332 := n2_
        have HB := n3_
        have HO335 := n4_
        clear n0_ n1_ n2_ n3_ n4_
        clear ho hb hg hat
        refine hK.out _ _ ⟨(blk_cell BK303.out 0).trans rfl, (blk_cell BK303.out 1).trans rfl, (blk_cell BK303.out 2).trans rfl, (blk_cell BK303.out 3).trans rfl, (blk_cell BK303.out 4).trans rfl, (blk_cell BK303.out 5).trans rfl, (blk_cell BK303.out 6).trans rfl, ((HB.out.cell (World.block_lt_of_cell? w _ hw326_0)).trans hw326_0)⟩ (fun hHeld => ?_)
        clear hK K
        refine norm_ (a' := ?_) ?_ ?_
        rotate_left
        ·show Act.put _ (some 49) _ = _
         simp only [Act.put, List.setIfInBounds_toArray, List.set_cons_zero, List.set_cons_succ, i64_w, i32_w]
         rfl
        refine pure_ (i := 10) (N := some 3) (v := ?_) (a' := ?_) #[true, true, true, true, true, true, true, true, true, true, true] rfl rfl (any_of HT_.out (by kernel_rfl)) (fun _ _ _ h => h) (Or.inl ⟨by rfl, ?_⟩) ?_ ?_
        rotate_left
        ·intro w'
         go_simp
         with_reducible rfl
        rotate_left
        ·simp only [Act.put, List.setIfInBounds_toArray, List.set_cons_zero, List.set_cons_succ, i64_w, i32_w]
         rfl
        refine done_ (done_of HT_.out (by kernel_rfl)) ?_
        try go_wp2
        go_ret
        exact ⟨_, er_, by (with_reducible repeat (first | apply Kd.R_alloc | apply Kd.R_drewN | apply Kd.R_drew)); exact Kd.R_mono HO335.out (fun _ hk => trivial), bl1_ HB GE303⟩
       ·rw [if_neg c35] at H
        exact absurd H (by simp)
      ·rw [if_neg c33] at H
       exact absurd H (by simp)
     ·rw [if_neg c32] at H
      have c32b0 : (a0_0 == 6) = false := beq_eq_false_iff_ne.mpr c32
      have c32b1 : (a0_0 != 6) = true := bne_iff_ne.mpr c32
      by_cases c43 : a0_0 = 15
      ·rw [if_pos c43] at H
       exact absurd H (by simp)
      ·rw [if_neg c43] at H
       have c43b0 : (a0_0 == 15) = false := beq_eq_false_iff_ne.mpr c43
       have c43b1 : (a0_0 != 15) = true := bne_iff_ne.mpr c43
       by_cases c62 : a0_0 = 16
       ·rw [if_pos c62] at H
        exact absurd H (by simp)
       ·rw [if_neg c62] at H
        have c62b0 : (a0_0 == 16) = false := beq_eq_false_iff_ne.mpr c62
        have c62b1 : (a0_0 != 16) = true := bne_iff_ne.mpr c62
        by_cases c81 : a0_0 = 22
        ·rw [if_pos c81] at H
         have c81b0 : (a0_0 == 22) = true := beq_iff_eq.mpr c81
         have c81b1 : (a0_0 != 22) = false := bne_eq_false_iff_eq.mpr c81
         clear c81
         obtain ⟨y372, hy372⟩ : ∃ y_ : List Int, y_ = (([a0_1, a0_5, a0_6] : List Int)) := ⟨_, rfl⟩
         replace H : ((basculeref03_lay.f kj1 y372).bind fun t375 => (if y304.length + t375.length < 140737488355328 then (some (y304 ++ t375)) else (none))) = some r := by first | (rw [hy372]; with_reducible exact H) | (have H2_ := (Option.bind_some _ _).symm.trans H; rw [hy372]; with_reducible exact H2_) | (have H2_ := (Option.bind_some _ _).symm.trans H; with_reducible exact H2_) | with_reducible exact H | (rw [hy372]; exact H) | exact H
         have Ny372 := Aside0.mk hy372
         clear hy372
         replace H := Option.bind_eq_some_iff.mp H
         obtain ⟨t375, A820, H⟩ := H
         replace H : (if y304.length + t375.length < 140737488355328 then (some (y304 ++ t375)) else (none)) = some r := H
         have A82 := Aside0.mk A820
         clear A820
         by_cases c83 : y304.length + t375.length < 140737488355328
         ·rw [if_pos c83] at H
          have LMc83 := Aside0.mk c83
          clear c83
          obtain ⟨y378, hy378⟩ : ∃ y_ : List Int, y_ = (y304 ++ t375) := ⟨_, rfl⟩
          replace H : (some y378) = some r := by first | (rw [hy378]; with_reducible exact H) | (have H2_ := (Option.bind_some _ _).symm.trans H; rw [hy378]; with_reducible exact H2_) | (have H2_ := (Option.bind_some _ _).symm.trans H; with_reducible exact H2_) | with_reducible exact H | (rw [hy378]; exact H) | exact H
          have Ny378 := Aside0.mk hy378
          clear hy378
          obtain rfl := Option.some.inj H
          refine cz7_ BK303.out ?_; intro hcz84_0 hcz84_1 hcz84_2 hcz84_3 hcz84_4 hcz84_5 hcz84_6 hfz84_0 hfz84_1 hfz84_2 hfz84_3 hfz84_4 hfz84_5 hfz84_6
          go_wp2_with (first | ((with_reducible refine gate_dst (N := 94) rfl ?_); refine Kd.R_lit (Kd.int .i64) _ 3 ?hg (N := 94) ?hd (xs := ([a0_1, a0_5, a0_6] : List Int)) (inner := [.int .i64 a0_1, .int .i64 a0_5, .int .i64 a0_6]) (ok := fun _ => True) (okp := fun _ => True) ?hr ?hp (fun _ hk => hk) trivial (Below.refl _ _) (Nat.le_refl _) (by simp) ?_; (case hd => rfl); (case hg => rfl); (case hr => first | (go_simp; done) | (go_simp; rfl)); (case hp => exact (Reps.one (show Kd.M (Kd.int .i64) _ _ _ a0_1 [.int .i64 a0_1] from rfl) (Reps.one (show Kd.M (Kd.int .i64) _ _ _ a0_5 [.int .i64 a0_5] from rfl) (Reps.one (show Kd.M (Kd.int .i64) _ _ _ a0_6 [.int .i64 a0_6] from rfl) (Reps.none _ _))))); intro v373 w85 ho86 hb hg_ hnew_; clear hg_ hnew_; (first | rw [← Ny372.out] at ho86 | (simp only [Int.reduceToNat] at ho86; rw [← Ny372.out] at ho86)); have n0_ := Aside0.mk (Kd.R_below (kr_ HO_3) hb); have n1_ := Aside0.mk (Kd.R_lower ho86 (below_size (bl1_ HB GE303))); have n2_ := Aside0.mk (blk_below (g := gb303) (bk_ BK303) hb); have n3_ := Aside0.mk (below_step (bl1_ HB GE303) hb); clear HO_3; clear BK303; clear HB; have HO_3 := n0_; have HO374 := n1_; have BK303 := n2_; have HB := n3_; clear n0_ n1_ n2_ n3_; clear hb ho86; obtain ⟨Ao87, co87, eo87⟩ := Kd.R_slice HO374.out; subst eo87) | ((with_reducible refine gate_callee (f := 54) rfl ?_); refine goesL_ (some 95) rfl rfl Try.func54 (by kernel_rfl) rfl #[.slice Ao87 y372.length co87] rfl ar_ ?_; (with_reducible refine (basculeref03_lay.calls kj1 _ _ y372 t375 _ ?side1 ?side2 A82.out).mono ?_); (case side1 => exact sc_ (Kd.R_reads' HO374.out).2.2); (case side2 => exact (Kd.R_reads' HO374.out).2.1); rintro e w88 ⟨v376, rfl, ho0, hb⟩; refine ⟨_, rfl, ?_⟩; have n0_ := Aside0.mk (Kd.R_elder' (kr_ HO_3) (Kd.R_base ho0) hb); have n1_ := Aside0.mk (Kd.R_below (kr_ HO374) hb); have n2_ := Aside0.mk (Kd.R_lower (Kd.R_new' ho0 (Kd.R_lt (kr_ HO_3))) (below_size (bl1_ HB GE303))); have n3_ := Aside0.mk (blk_below (g := gb303) (bk_ BK303) hb); have n4_ := Aside0.mk (below_step (bl1_ HB GE303) hb); clear HO_3; clear HO374; clear BK303; clear HB; have HO_3 := n0_; have HO374 := n1_; have HO377 := n2_; have BK303 := n3_; have HB := n4_; clear n0_ n1_ n2_ n3_ n4_; (try clear hb); (try clear hb2); (try clear hk); (try clear hi); (try clear ho0); obtain ⟨Ao90, co90, eo90⟩ := Kd.R_slice HO377.out; subst eo90) | ((with_reducible refine gate_builtin (b := .append) (xs := #[.tmp 87, .tmp 95]) rfl ?_); at_builtin; refine Kd.R_append_rows (Kd.int .u8) (w0 := w) w.heap.size rfl (.tmp 87) (.tmp 95) 43 5 (.int .u8 0) 1 rfl Try.underlying43 info5 rfl (by decide) (by omega) v305 y304 t375 _ _ _ (fun k_ => some k_ ≠ (.slice Ao90 t375.length co90 : Value).ownBlock) (fun _ => False) rfl rfl ?aO ?aR (fun _ _ h => h) (fun _ h => h.elim) ?aF ?aB ?aS ?aL ?_; (case aR => exact sc_ (Kd.R_reads' HO377.out).2.2); (case aB => exact (bl1_ HB GE303)); (case aF => exact (fun k_ hk => Kd.fresh' (Kd.R_lt (kr_ HO377)) k_ hk)); (case aO => exact (by (with_reducible repeat (first | apply Kd.R_alloc | apply Kd.R_drewN | apply Kd.R_drew)); exact Kd.R_mono HO_3.out (fun _ hk => hk.2))); (case aS => exact (below_size (bl1_ HB GE303))); (case aL => have := LMc83.out; omega); intro v379 w89 ho hb hg hat; rw [← Ny378.out] at ho; have n0_ := Aside0.mk (blk_grown (g := gb303) (bk_ BK303) hg (Kd.R_ne HO_3.out BK303.out (by decide))); have n1_ := Aside0.mk (Kd.R_over' (kr_ HO374) (Kd.R_typed (kr_ HO_3)) (by decide) hg); have n2_ := Aside0.mk (Kd.R_after (ok := (fun _ => True)) (kr_ HO377) hg hat); have n3_ := Aside0.mk (hb); have n4_ := Aside0.mk (ho); clear BK303; clear HO374; clear HO377; clear HB; clear HO_3; have BK303 := n0_; have HO374 := n1_; have HO377 := n2_; have HB := n3_; have HO380 := n4_; clear n0_ n1_ n2_ n3_ n4_; clear ho hb hg hat))
          go_ret
          exact ⟨_, er_, by (with_reducible repeat (first | apply Kd.R_alloc | apply Kd.R_drewN | apply Kd.R_drew)); exact Kd.R_mono HO380.out (fun _ hk => trivial), bl1_ HB GE303⟩
         ·rw [if_neg c83] at H
          exact absurd H (by simp)
        ·rw [if_neg c81] at H
         exact absurd H (by simp)
end Go.Proofs.Ytlalpooiegganaa.PG
end

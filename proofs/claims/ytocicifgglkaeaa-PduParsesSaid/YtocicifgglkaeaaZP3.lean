/- The words, contracts and walks that this claim leans on, put together by a program of this session (part 3). -/
import Derived.Test.YtocicifgglkaeaaZP2
section
namespace Go.Proofs.Ytocicifgglkaeaa.PR
open Go.RowKit Go.Proofs.YtocicifgglkaeaaW.PrintWords Go.Proofs.YtocicifgglkaeaaW.PrintLast Go.Proofs.YtocicifgglkaeaaW.PrintMore
attribute [local go_sem] max2_int min2_int max_two min_two max_three min_three max_four min_four   
set_option linter.unusedVariables false
set_option linter.unusedSimpArgs false
open Go.Proofs.Ytocicifgglkaeaa.Ext Go.Proofs.Ytocicifgglkaeaa.PP Go.Proofs.Ytocicifgglkaeaa.ExtF Go.Proofs.Ytocicifgglkaeaa.PQ Go.Proofs.Ytocicifgglkaeaa.ExtM
def basculeref03_Bytes.j0 : Nat → List Int → Int → Bool → Int → Int → Int → List Int → Int → Int → Int → Option (List Int)
 | 0, _, _, _, _, _, _, _, _, _, _ => none
 | k + 1, x3, x9, x10, x131000, x131001, x131002, x131003, x131004, x131005, x131006 => if x10 = true then ((basculeref03_lay.f k (([x131001, x131002] : List Int))).bind fun t137 => (if x3.length + t137.length < 140737488355328 then (some (x3 ++ t137)) else (none))) else (if x9 = 5 then (if 0 < (x131003.length : Int) then ((basculeref03_lay.f k (([x131001, wrap64 (65280 * (rd x131003 0))] : List Int))).bind fun t147 => (if x3.length + t147.length < 140737488355328 then (some (x3 ++ t147)) else (none))) else (none)) else (if x9 = 6 then (if 0 < (x131003.length : Int) then ((basculeref03_lay.f k (([x131001, rd x131003 0] : List Int))).bind fun t157 => (if x3.length + t157.length < 140737488355328 then (some (x3 ++ t157)) else (none))) else (none)) else (if x9 = 15 then ((basculeref03_lay.f k (([x131001, x131002] : List Int))).bind fun t166 => (if x3.length + t166.length < 140737488355328 then ((some (x3 ++ t166 : List Int)).bind fun y169 => ((basculeref01_Pack.f k x131003).bind fun t172 => ((basculeref03_counted.f t172).bind fun t175 => (if y169.length + t175.length < 140737488355328 then (some (y169 ++ t175)) else (none))))) else (none))) else (if x9 = 16 then ((basculeref03_lay.f k (([x131001, x131002] : List Int))).bind fun t184 => (if x3.length + t184.length < 140737488355328 then ((some (x3 ++ t184 : List Int)).bind fun y187 => ((basculeref03_lay.f k x131003).bind fun t190 => ((basculeref03_counted.f t190).bind fun t193 => (if y187.length + t193.length < 140737488355328 then (some (y187 ++ t193)) else (none))))) else (none))) else (if x9 = 22 then ((basculeref03_lay.f k (([x131001, x131005, x131006] : List Int))).bind fun t202 => (if x3.length + t202.length < 140737488355328 then (some (x3 ++ t202)) else (none))) else ((basculeref03_lay.f k (([x131001, x131002, x131004, (x131003.length : Int)] : List Int))).bind fun t211 => (if x3.length + t211.length < 140737488355328 then ((some (x3 ++ t211 : List Int)).bind fun y214 => ((basculeref03_lay.f k x131003).bind fun t217 => ((basculeref03_counted.f t217).bind fun t220 => (if y214.length + t220.length < 140737488355328 then (some (y214 ++ t220)) else (none))))) else (none))))))))
def basculeref03_Bytes.f (k : Nat) (a0_0 : Int) (a0_1 : Int) (a0_2 : Int) (l0_3 : List Int) (a0_4 : Int) (a0_5 : Int) (a0_6 : Int) : Option (List Int) := (some (([(a0_0) % 256] : List Int) : List Int)).bind fun y131 => (if a0_0 = 1 then (basculeref03_Bytes.j0 k y131 a0_0 (a0_0 == 1) a0_0 a0_1 a0_2 l0_3 a0_4 a0_5 a0_6) else (if a0_0 = 2 then (basculeref03_Bytes.j0 k y131 a0_0 (a0_0 == 2) a0_0 a0_1 a0_2 l0_3 a0_4 a0_5 a0_6) else (if a0_0 = 3 then (basculeref03_Bytes.j0 k y131 a0_0 (a0_0 == 3) a0_0 a0_1 a0_2 l0_3 a0_4 a0_5 a0_6) else (basculeref03_Bytes.j0 k y131 a0_0 (a0_0 == 4) a0_0 a0_1 a0_2 l0_3 a0_4 a0_5 a0_6))))
theorem basculeref03_Bytes.mono_l : ∀ k, (∀ y0 y1 y2 y3 y4 y5 y6 y7 y8 y9, LeO (basculeref03_Bytes.j0 k y0 y1 y2 y3 y4 y5 y6 y7 y8 y9) (basculeref03_Bytes.j0 (k + 1) y0 y1 y2 y3 y4 y5 y6 y7 y8 y9))
 | 0 => fun _ _ _ _ _ _ _ _ _ _ r h => by simp [basculeref03_Bytes.j0] at h
 | k + 1 => by
  have ih0 := basculeref03_Bytes.mono_l k
  ·intro y0 y1 y2 y3 y4 y5 y6 y7 y8 y9
   unfold basculeref03_Bytes.j0
   repeat' first
   | (with_reducible exact ih0 _ _ _ _ _ _ _ _ _ _)
   | (with_reducible exact basculeref01_Pack.mono _ _)
   | (with_reducible exact basculeref03_lay.mono _ _)
   | (with_reducible exact LeO.refl _)
   | (with_reducible exact LeO.none _)
   | (with_reducible refine LeO.ite ?_ ?_)
   | (with_reducible refine LeO.bind ?_ (fun _ => ?_))
   | exact ih0 _ _ _ _ _ _ _ _ _ _
   | exact basculeref01_Pack.mono _ _
   | exact basculeref03_lay.mono _ _
   | exact LeO.none _
   | refine LeO.ite ?_ ?_
   | refine LeO.bind ?_ (fun _ => ?_)
theorem basculeref03_Bytes.mono : ∀ a0 a1 a2 a3 a4 a5 a6 k, LeO (basculeref03_Bytes.f k a0 a1 a2 a3 a4 a5 a6) (basculeref03_Bytes.f (k + 1) a0 a1 a2 a3 a4 a5 a6) := by
 intro a0 a1 a2 a3 a4 a5 a6 k
 have ih0 := basculeref03_Bytes.mono_l k
 unfold basculeref03_Bytes.f
 repeat' first
  | (with_reducible exact ih0 _ _ _ _ _ _ _ _ _ _)
  | (with_reducible exact basculeref01_Pack.mono _ _)
  | (with_reducible exact basculeref03_lay.mono _ _)
  | (with_reducible exact LeO.refl _)
  | (with_reducible exact LeO.none _)
  | (with_reducible refine LeO.ite ?_ ?_)
  | (with_reducible refine LeO.bind ?_ (fun _ => ?_))
  | exact ih0 _ _ _ _ _ _ _ _ _ _
  | exact basculeref01_Pack.mono _ _
  | exact basculeref03_lay.mono _ _
  | exact LeO.none _
  | refine LeO.ite ?_ ?_
  | refine LeO.bind ?_ (fun _ => ?_)
def basculeref03_Bytes.T10 : Bool × List (List Nat × List Nat) := (true, [([], []), ([], []), ([1], [1]), ([], []), ([3], [3]), ([4], [4]), ([5], [5]), ([6], [6]), ([2, 7], [2, 7]), ([8], [8]), ([0, 9, 9], [0, 9]), ([10, 10, 0, 1, 2, 3, 4, 5, 6, 7, 8, 9, 10], [0, 10])])
def basculeref03_Bytes.B10 : List Nat := [0, 0, 2, 0, 8, 24, 56, 120, 254, 510, 1023, 2047]
theorem basculeref03_Bytes.tab10 : rtab .any (opsOf Try.f33 10) = basculeref03_Bytes.T10 := by kernel_rfl
theorem basculeref03_Bytes.bits10 : waitsOk basculeref03_Bytes.T10.2 basculeref03_Bytes.B10 = true := by kernel_rfl
def basculeref03_Bytes.T13 : Bool × List (List Nat × List Nat) := (true, [([], []), ([], []), ([1], [1]), ([], []), ([3], [3]), ([4], [4]), ([5], [5]), ([2, 6], [2, 6]), ([7], [7]), ([0, 8, 8], [0, 8]), ([9, 9, 0, 1, 2, 3, 4, 5, 6, 7, 8, 9], [0, 9])])
def basculeref03_Bytes.B13 : List Nat := [0, 0, 2, 0, 8, 24, 56, 126, 254, 511, 1023]
theorem basculeref03_Bytes.tab13 : rtab .any (opsOf Try.f33 13) = basculeref03_Bytes.T13 := by kernel_rfl
theorem basculeref03_Bytes.bits13 : waitsOk basculeref03_Bytes.T13.2 basculeref03_Bytes.B13 = true := by kernel_rfl
set_option maxHeartbeats 8000000 in
set_option maxRecDepth 100000 in
theorem basculeref03_Bytes.calls (k : Nat) (a0_0 : Int) (a0_1 : Int) (a0_2 : Int) (A0_3 : Option Addr) (c0_3 : Nat) (l0_3 : List Int) (a0_4 : Int) (a0_5 : Int) (a0_6 : Int) (r : List Int) (w : World) (hr0_3 : Kd.C (Kd.int .i64) w A0_3 l0_3.length l0_3) (hc0_3 : l0_3.length ≤ c0_3) (h : basculeref03_Bytes.f k a0_0 a0_1 a0_2 l0_3 a0_4 a0_5 a0_6 = some r) :
 Calls Try.prog 33 #[.agg #[.int .i64 a0_0, .int .i64 a0_1, .int .i64 a0_2, .slice A0_3 l0_3.length c0_3, .int .i64 a0_4, .int .i64 a0_5, .int .i64 a0_6]] w fun e w' => ∃ v0_ : Value, e = .returned (v0_) ∧ Kd.R (Kd.int .u8) 5 w' w.heap.size (fun _ => True) v0_ r ∧ Below w.heap.size w w' := by
 have hu24 := Try.underlying24
 have HR0_3 := Aside0.mk hr0_3
 have HC0_3 := Aside0.mk hc0_3
 clear hr0_3 hc0_3
 have HB := Aside0.mk (Below.refl w.heap.size w)
 have H : ((some (([(a0_0) % 256] : List Int) : List Int)).bind fun y131 => (if a0_0 = 1 then (basculeref03_Bytes.j0 k y131 a0_0 (a0_0 == 1) a0_0 a0_1 a0_2 l0_3 a0_4 a0_5 a0_6) else (if a0_0 = 2 then (basculeref03_Bytes.j0 k y131 a0_0 (a0_0 == 2) a0_0 a0_1 a0_2 l0_3 a0_4 a0_5 a0_6) else (if a0_0 = 3 then (basculeref03_Bytes.j0 k y131 a0_0 (a0_0 == 3) a0_0 a0_1 a0_2 l0_3 a0_4 a0_5 a0_6) else (basculeref03_Bytes.j0 k y131 a0_0 (a0_0 == 4) a0_0 a0_1 a0_2 l0_3 a0_4 a0_5 a0_6))))) = some r := h
 clear h
 obtain ⟨y131, hy131⟩ : ∃ y_ : List Int, y_ = (([(a0_0) % 256] : List Int)) := ⟨_, rfl⟩
 replace H : (if a0_0 = 1 then (basculeref03_Bytes.j0 k y131 a0_0 (a0_0 == 1) a0_0 a0_1 a0_2 l0_3 a0_4 a0_5 a0_6) else (if a0_0 = 2 then (basculeref03_Bytes.j0 k y131 a0_0 (a0_0 == 2) a0_0 a0_1 a0_2 l0_3 a0_4 a0_5 a0_6) else (if a0_0 = 3 then (basculeref03_Bytes.j0 k y131 a0_0 (a0_0 == 3) a0_0 a0_1 a0_2 l0_3 a0_4 a0_5 a0_6) else (basculeref03_Bytes.j0 k y131 a0_0 (a0_0 == 4) a0_0 a0_1 a0_2 l0_3 a0_4 a0_5 a0_6)))) = some r := by first | (rw [hy131]; with_reducible exact H) | (have H2_ := (Option.bind_some _ _).symm.trans H; rw [hy131]; with_reducible exact H2_) | (have H2_ := (Option.bind_some _ _).symm.trans H; with_reducible exact H2_) | with_reducible exact H | (rw [hy131]; exact H) | exact H
 have Ny131 := Aside0.mk hy131
 clear hy131
 have HC2 := Aside0.mk H
 clear H
 go_enter Try.func33, Try.ntmps33
 go_upto_if 10 with (first | ((with_reducible refine gate_dst (N := 1) rfl ?_); refine bx_ (N := 1) (cs := #[.int .i64 a0_0, .int .i64 a0_1, .int .i64 a0_2, .slice A0_3 l0_3.length c0_3, .int .i64 a0_4, .int .i64 a0_5, .int .i64 a0_6]) (t := 24) ?_; intro gb130 hg w3 hbox hb; have n0_ := Aside0.mk (below_step (bl0_ HB) hb); have n1_ := Aside0.mk (hbox); have n2_ := Aside0.mk ((by rw [hg]; exact (below_size (bl0_ HB)) : w.heap.size ≤ gb130)); have n3_ := Aside0.mk ((by rw [hg]; exact (below_size (bl0_ HB)) : w.heap.size ≤ gb130)); clear HB; have HB := n0_; have BK130 := n1_; have GW130 := n2_; have GE130 := n3_; clear n0_ n1_ n2_ n3_; clear hb hbox hg; refine cz7_ BK130.out ?_; intro hcz4_0 hcz4_1 hcz4_2 hcz4_3 hcz4_4 hcz4_5 hcz4_6 hfz4_0 hfz4_1 hfz4_2 hfz4_3 hfz4_4 hfz4_5 hfz4_6) | ((with_reducible refine gate_dst (N := 7) rfl ?_); refine Kd.R_lit (Kd.int .u8) _ 5 ?hg (N := 7) ?hd (xs := ([(a0_0) % 256] : List Int)) (inner := [.int .u8 ((a0_0) % 256)]) (ok := fun _ => True) (okp := fun _ => True) ?hr ?hp (fun _ hk => hk) trivial (Below.refl _ _) (Nat.le_refl _) (by simp) ?_; (case hd => rfl); (case hg => rfl); (case hr => first | (go_simp; done) | (go_simp; rfl)); (case hp => exact (Reps.one (show Kd.M (Kd.int .u8) _ _ _ ((a0_0) % 256) [.int .u8 ((a0_0) % 256)] from rfl) (Reps.none _ _))); intro v132 w5 ho6 hb hg_ hnew_; clear hg_ hnew_; (first | rw [← Ny131.out] at ho6 | (simp only [Int.reduceToNat] at ho6; rw [← Ny131.out] at ho6)); have n0_ := Aside0.mk (Kd.R_lower ho6 (below_size (bl1_ HB GE130))); have n1_ := Aside0.mk (blk_below (g := gb130) (bk_ BK130) hb); have n2_ := Aside0.mk (below_step (bl1_ HB GE130) hb); clear BK130; clear HB; have HO133 := n0_; have BK130 := n1_; have HB := n2_; clear n0_ n1_ n2_; clear hb ho6; refine cz7_ BK130.out ?_; intro hcz7_0 hcz7_1 hcz7_2 hcz7_3 hcz7_4 hcz7_5 hcz7_6 hfz7_0 hfz7_1 hfz7_2 hfz7_3 hfz7_4 hfz7_5 hfz7_6))
 (try simp only [Act.put, List.setIfInBounds_toArray, List.set_cons_zero, List.set_cons_succ])
 go_cut [10] (fun v10 wc => ∃ (kq : Nat) (x10_1 : Bool), v10 = .bool x10_1 ∧ Aside0 (basculeref03_Bytes.j0 kq y131 a0_0 x10_1 a0_0 a0_1 a0_2 l0_3 a0_4 a0_5 a0_6 = some r) ∧ Aside0 (kq ≤ k) ∧ Aside0 (Kd.R (Kd.int .u8) 5 wc w.heap.size (fun _ => True) v132 y131) ∧ Aside0 (wc.heap[gb130]? = some (.cells #[.int .i64 a0_0, .int .i64 a0_1, .int .i64 a0_2, (.slice A0_3 l0_3.length c0_3), .int .i64 a0_4, .int .i64 a0_5, .int .i64 a0_6] 24 (0, 0))) ∧ Aside0 (Below w.heap.size w wc))
 case first =>
  have H := HC2.out
  clear HC2
  by_cases c8 : a0_0 = 1
  ·rw [if_pos c8] at H
   have c8b0 : (a0_0 == 1) = true := beq_iff_eq.mpr c8
   have c8b1 : (a0_0 != 1) = false := bne_eq_false_iff_eq.mpr c8
   clear c8
   (first | rw [c8b0] | (simp only [i64_w, i32_w]; rw [c8b0]) | skip)
   have H' := Aside0.mk H
   clear H
   go_wp2
   go_meet
   case rel => exact ⟨_, ((a0_0 == 1)), (by first | rfl | (simp; done) | (simp [*]; done)), H', ⟨by first | omega | exact Nat.le_refl _⟩, ⟨kr_ HO133⟩, ⟨bk_ BK130⟩, ⟨bl1_ HB GE130⟩⟩
  ·rw [if_neg c8] at H
   have c8b0 : (a0_0 == 1) = false := beq_eq_false_iff_ne.mpr c8
   have c8b1 : (a0_0 != 1) = true := bne_iff_ne.mpr c8
   (first | rw [c8b0] | (simp only [i64_w, i32_w]; rw [c8b0]) | skip)
   by_cases c9 : a0_0 = 2
   ·rw [if_pos c9] at H
    have c9b0 : (a0_0 == 2) = true := beq_iff_eq.mpr c9
    have c9b1 : (a0_0 != 2) = false := bne_eq_false_iff_eq.mpr c9
    clear c9
    have H' := Aside0.mk H
    clear H
    go_wp2
    go_meet
    case rel => exact ⟨_, ((a0_0 == 2)), (by first | rfl | (simp; done) | (simp [*]; done)), H', ⟨by first | omega | exact Nat.le_refl _⟩, ⟨kr_ HO133⟩, ⟨bk_ BK130⟩, ⟨bl1_ HB GE130⟩⟩
   ·rw [if_neg c9] at H
    have c9b0 : (a0_0 == 2) = false := beq_eq_false_iff_ne.mpr c9
    have c9b1 : (a0_0 != 2) = true := bne_iff_ne.mpr c9
    by_cases c10 : a0_0 = 3
    ·rw [if_pos c10] at H
     have c10b0 : (a0_0 == 3) = true := beq_iff_eq.mpr c10
     have c10b1 : (a0_0 != 3) = false := bne_eq_false_iff_eq.mpr c10
     clear c10
     have H' := Aside0.mk H
     clear H
     go_wp2
     go_meet
     case rel => exact ⟨_, ((a0_0 == 3)), (by first | rfl | (simp; done) | (simp [*]; done)), H', ⟨by first | omega | exact Nat.le_refl _⟩, ⟨kr_ HO133⟩, ⟨bk_ BK130⟩, ⟨bl1_ HB GE130⟩⟩
    ·rw [if_neg c10] at H
     have c10b0 : (a0_0 == 3) = false := beq_eq_false_iff_ne.mpr c10
     have c10b1 : (a0_0 != 3) = true := bne_iff_ne.mpr c10
     have H' := Aside0.mk H
     clear H
     go_wp2
     go_meet
     case rel => exact ⟨_, ((a0_0 == 4)), (by first | rfl | (simp; done) | (simp [*]; done)), H', ⟨by first | omega | exact Nat.le_refl _⟩, ⟨kr_ HO133⟩, ⟨bk_ BK130⟩, ⟨bl1_ HB GE130⟩⟩
 case rest =>
  clear HC2
  try clear c1
  try clear p2
  try clear c3
  try clear c8
  try clear c8b0
  try clear c8b1
  try clear c9
  try clear c9b0
  try clear c9b1
  try clear c10
  try clear c10b0
  try clear c10b1
  try clear hcz4_0 hcz4_1 hcz4_2 hcz4_3 hcz4_4 hcz4_5 hcz4_6
  try clear hcz7_0 hcz7_1 hcz7_2 hcz7_3 hcz7_4 hcz7_5 hcz7_6
  try clear hfz4_0 hfz4_1 hfz4_2 hfz4_3 hfz4_4 hfz4_5 hfz4_6
  try clear hfz7_0 hfz7_1 hfz7_2 hfz7_3 hfz7_4 hfz7_5 hfz7_6
  obtain ⟨kq, x10_1, rfl, HA, HJ1, HO_3, BK130, HB⟩ := hcut
  cases kq with
  | zero => exact absurd HA.out (by simp [basculeref03_Bytes.j0])
  | succ kj1 =>
   have H := HA.out
   clear HA
   simp only [basculeref03_Bytes.j0] at H
   by_cases c11 : x10_1 = true
   ·subst c11
    have H1 : ((basculeref03_lay.f kj1 (([a0_1, a0_2] : List Int))).bind fun t137 => (if y131.length + t137.length < 140737488355328 then (some (y131 ++ t137)) else (none))) = some r := by rw [if_pos rfl] at H; exact H
    clear H
    have H := H1
    clear H1
    obtain ⟨y134, hy134⟩ : ∃ y_ : List Int, y_ = (([a0_1, a0_2] : List Int)) := ⟨_, rfl⟩
    replace H : ((basculeref03_lay.f kj1 y134).bind fun t137 => (if y131.length + t137.length < 140737488355328 then (some (y131 ++ t137)) else (none))) = some r := by first | (rw [hy134]; with_reducible exact H) | (have H2_ := (Option.bind_some _ _).symm.trans H; rw [hy134]; with_reducible exact H2_) | (have H2_ := (Option.bind_some _ _).symm.trans H; with_reducible exact H2_) | with_reducible exact H | (rw [hy134]; exact H) | exact H
    have Ny134 := Aside0.mk hy134
    clear hy134
    replace H := Option.bind_eq_some_iff.mp H
    obtain ⟨t137, A120, H⟩ := H
    replace H : (if y131.length + t137.length < 140737488355328 then (some (y131 ++ t137)) else (none)) = some r := H
    have A12 := Aside0.mk A120
    clear A120
    by_cases c13 : y131.length + t137.length < 140737488355328
    ·rw [if_pos c13] at H
     have LMc13 := Aside0.mk c13
     clear c13
     obtain ⟨y140, hy140⟩ : ∃ y_ : List Int, y_ = (y131 ++ t137) := ⟨_, rfl⟩
     replace H : (some y140) = some r := by first | (rw [hy140]; with_reducible exact H) | (have H2_ := (Option.bind_some _ _).symm.trans H; rw [hy140]; with_reducible exact H2_) | (have H2_ := (Option.bind_some _ _).symm.trans H; with_reducible exact H2_) | with_reducible exact H | (rw [hy140]; exact H) | exact H
     have Ny140 := Aside0.mk hy140
     clear hy140
     obtain rfl := Option.some.inj H
     refine cz7_ BK130.out ?_; intro hcz14_0 hcz14_1 hcz14_2 hcz14_3 hcz14_4 hcz14_5 hcz14_6 hfz14_0 hfz14_1 hfz14_2 hfz14_3 hfz14_4 hfz14_5 hfz14_6
     go_wp2_with (first | ((with_reducible refine gate_dst (N := 20) rfl ?_); refine Kd.R_lit (Kd.int .i64) _ 3 ?hg (N := 20) ?hd (xs := ([a0_1, a0_2] : List Int)) (inner := [.int .i64 a0_1, .int .i64 a0_2]) (ok := fun _ => True) (okp := fun _ => True) ?hr ?hp (fun _ hk => hk) trivial (Below.refl _ _) (Nat.le_refl _) (by simp) ?_; (case hd => rfl); (case hg => rfl); (case hr => first | (go_simp; done) | (go_simp; rfl)); (case hp => exact (Reps.one (show Kd.M (Kd.int .i64) _ _ _ a0_1 [.int .i64 a0_1] from rfl) (Reps.one (show Kd.M (Kd.int .i64) _ _ _ a0_2 [.int .i64 a0_2] from rfl) (Reps.none _ _)))); intro v135 w15 ho16 hb hg_ hnew_; clear hg_ hnew_; (first | rw [← Ny134.out] at ho16 | (simp only [Int.reduceToNat] at ho16; rw [← Ny134.out] at ho16)); have n0_ := Aside0.mk (Kd.R_below (kr_ HO_3) hb); have n1_ := Aside0.mk (Kd.R_lower ho16 (below_size (bl1_ HB GE130))); have n2_ := Aside0.mk (blk_below (g := gb130) (bk_ BK130) hb); have n3_ := Aside0.mk (below_step (bl1_ HB GE130) hb); clear HO_3; clear BK130; clear HB; have HO_3 := n0_; have HO136 := n1_; have BK130 := n2_; have HB := n3_; clear n0_ n1_ n2_ n3_; clear hb ho16; obtain ⟨Ao17, co17, eo17⟩ := Kd.R_slice HO136.out; subst eo17) | ((with_reducible refine gate_callee (f := 56) rfl ?_); refine goesL_ (some 21) rfl rfl Try.func56 (by kernel_rfl) rfl #[.slice Ao17 y134.length co17] rfl ar_ ?_; (with_reducible refine (basculeref03_lay.calls kj1 _ _ y134 t137 _ ?side1 ?side2 A12.out).mono ?_); (case side1 => exact sc_ (Kd.R_reads' HO136.out).2.2); (case side2 => exact (Kd.R_reads' HO136.out).2.1); rintro e w18 ⟨v138, rfl, ho0, hb⟩; refine ⟨_, rfl, ?_⟩; have n0_ := Aside0.mk (Kd.R_elder' (kr_ HO_3) (Kd.R_base ho0) hb); have n1_ := Aside0.mk (Kd.R_below (kr_ HO136) hb); have n2_ := Aside0.mk (Kd.R_lower (Kd.R_new' ho0 (Kd.R_lt (kr_ HO_3))) (below_size (bl1_ HB GE130))); have n3_ := Aside0.mk (blk_below (g := gb130) (bk_ BK130) hb); have n4_ := Aside0.mk (below_step (bl1_ HB GE130) hb); clear HO_3; clear HO136; clear BK130; clear HB; have HO_3 := n0_; have HO136 := n1_; have HO139 := n2_; have BK130 := n3_; have HB := n4_; clear n0_ n1_ n2_ n3_ n4_; (try clear hb); (try clear hb2); (try clear hk); (try clear hi); (try clear ho0); obtain ⟨Ao20, co20, eo20⟩ := Kd.R_slice HO139.out; subst eo20) | ((with_reducible refine gate_builtin (b := .append) (xs := #[.tmp 15, .tmp 21]) rfl ?_); at_builtin; refine Kd.R_append_rows (Kd.int .u8) (w0 := w) w.heap.size rfl (.tmp 15) (.tmp 21) 58 5 (.int .u8 0) 1 rfl Try.underlying58 info5 rfl (by decide) (by omega) v132 y131 t137 _ _ _ (fun k_ => some k_ ≠ (.slice Ao20 t137.length co20 : Value).ownBlock) (fun _ => False) rfl rfl ?aO ?aR (fun _ _ h => h) (fun _ h => h.elim) ?aF ?aB ?aS ?aL ?_; (case aR => exact sc_ (Kd.R_reads' HO139.out).2.2); (case aB => exact (bl1_ HB GE130)); (case aF => exact (fun k_ hk => Kd.fresh' (Kd.R_lt (kr_ HO139)) k_ hk)); (case aO => exact (by (with_reducible repeat (first | apply Kd.R_alloc | apply Kd.R_drewN | apply Kd.R_drew)); exact Kd.R_mono HO_3.out (fun _ hk => hk.2))); (case aS => exact (below_size (bl1_ HB GE130))); (case aL => have := LMc13.out; omega); intro v141 w19 ho hb hg hat; rw [← Ny140.out] at ho; have n0_ := Aside0.mk (blk_grown (g := gb130) (bk_ BK130) hg (Kd.R_ne HO_3.out BK130.out (by decide))); have n1_ := Aside0.mk (Kd.R_over' (kr_ HO136) (Kd.R_typed (kr_ HO_3)) (by decide) hg); have n2_ := Aside0.mk (Kd.R_after (ok := (fun _ => True)) (kr_ HO139) hg hat); have n3_ := Aside0.mk (hb); have n4_ := Aside0.mk (ho); clear BK130; clear HO136; clear HO139; clear HB; clear HO_3; have BK130 := n0_; have HO136 := n1_; have HO139 := n2_; have HB := n3_; have HO142 := n4_; clear n0_ n1_ n2_ n3_ n4_; clear ho hb hg hat))
     go_ret
     exact ⟨_, er_, by (with_reducible repeat (first | apply Kd.R_alloc | apply Kd.R_drewN | apply Kd.R_drew)); exact Kd.R_mono HO142.out (fun _ hk => trivial), bl1_ HB GE130⟩
    ·rw [if_neg c13] at H
     exact absurd H (by simp)
   ·replace c11 := Bool.eq_false_iff.mpr c11
    subst c11
    have H1 : (if a0_0 = 5 then (if 0 < (l0_3.length : Int) then ((basculeref03_lay.f kj1 (([a0_1, wrap64 (65280 * (rd l0_3 0))] : List Int))).bind fun t147 => (if y131.length + t147.length < 140737488355328 then (some (y131 ++ t147)) else (none))) else (none)) else (if a0_0 = 6 then (if 0 < (l0_3.length : Int) then ((basculeref03_lay.f kj1 (([a0_1, rd l0_3 0] : List Int))).bind fun t157 => (if y131.length + t157.length < 140737488355328 then (some (y131 ++ t157)) else (none))) else (none)) else (if a0_0 = 15 then ((basculeref03_lay.f kj1 (([a0_1, a0_2] : List Int))).bind fun t166 => (if y131.length + t166.length < 140737488355328 then ((some (y131 ++ t166 : List Int)).bind fun y169 => ((basculeref01_Pack.f kj1 l0_3).bind fun t172 => ((basculeref03_counted.f t172).bind fun t175 => (if y169.length + t175.length < 140737488355328 then (some (y169 ++ t175)) else (none))))) else (none))) else (if a0_0 = 16 then ((basculeref03_lay.f kj1 (([a0_1, a0_2] : List Int))).bind fun t184 => (if y131.length + t184.length < 140737488355328 then ((some (y131 ++ t184 : List Int)).bind fun y187 => ((basculeref03_lay.f kj1 l0_3).bind fun t190 => ((basculeref03_counted.f t190).bind fun t193 => (if y187.length + t193.length < 140737488355328 then (some (y187 ++ t193)) else (none))))) else (none))) else (if a0_0 = 22 then ((basculeref03_lay.f kj1 (([a0_1, a0_5, a0_6] : List Int))).bind fun t202 => (if y131.length + t202.length < 140737488355328 then (some (y131 ++ t202)) else (none))) else ((basculeref03_lay.f kj1 (([a0_1, a0_2, a0_4, (l0_3.length : Int)] : List Int))).bind fun t211 => (if y131.length + t211.length < 140737488355328 then ((some (y131 ++ t211 : List Int)).bind fun y214 => ((basculeref03_lay.f kj1 l0_3).bind fun t217 => ((basculeref03_counted.f t217).bind fun t220 => (if y214.length + t220.length < 140737488355328 then (some (y214 ++ t220)) else (none))))) else (none)))))))) = some r := by rw [if_neg (show ¬ (false = true) by decide)] at H; exact H
    clear H
    have H := H1
    clear H1
    by_cases c21 : a0_0 = 5
    ·rw [if_pos c21] at H
     have c21b0 : (a0_0 == 5) = true := beq_iff_eq.mpr c21
     have c21b1 : (a0_0 != 5) = false := bne_eq_false_iff_eq.mpr c21
     clear c21
     by_cases c22 : 0 < (l0_3.length : Int)
     ·rw [if_pos c22] at H
      have c22b0 : decide (0 < (l0_3.length : Int)) = true := decide_eq_true c22
      have c22b1 : decide (0 < l0_3.length) = true := decide_eq_true (by omega)
      clear c22
      obtain ⟨y144, hy144⟩ : ∃ y_ : List Int, y_ = (([a0_1, wrap64 (65280 * (rd l0_3 0))] : List Int)) := ⟨_, rfl⟩
      replace H : ((basculeref03_lay.f kj1 y144).bind fun t147 => (if y131.length + t147.length < 140737488355328 then (some (y131 ++ t147)) else (none))) = some r := by first | (rw [hy144]; with_reducible exact H) | (have H2_ := (Option.bind_some _ _).symm.trans H; rw [hy144]; with_reducible exact H2_) | (have H2_ := (Option.bind_some _ _).symm.trans H; with_reducible exact H2_) | with_reducible exact H | (rw [hy144]; exact H) | exact H
      have Ny144 := Aside0.mk hy144
      clear hy144
      replace H := Option.bind_eq_some_iff.mp H
      obtain ⟨t147, A230, H⟩ := H
      replace H : (if y131.length + t147.length < 140737488355328 then (some (y131 ++ t147)) else (none)) = some r := H
      have A23 := Aside0.mk A230
      clear A230
      by_cases c24 : y131.length + t147.length < 140737488355328
      ·rw [if_pos c24] at H
       have LMc24 := Aside0.mk c24
       clear c24
       obtain ⟨y150, hy150⟩ : ∃ y_ : List Int, y_ = (y131 ++ t147) := ⟨_, rfl⟩
       replace H : (some y150) = some r := by first | (rw [hy150]; with_reducible exact H) | (have H2_ := (Option.bind_some _ _).symm.trans H; rw [hy150]; with_reducible exact H2_) | (have H2_ := (Option.bind_some _ _).symm.trans H; with_reducible exact H2_) | with_reducible exact H | (rw [hy150]; exact H) | exact H
       have Ny150 := Aside0.mk hy150
       clear hy150
       obtain rfl := Option.some.inj H
       try go_wp2
       have n0_ := Aside0.mk (Kd.R_drew HO_3.out)
       have n1_ := Aside0.mk (blk_drew BK130.out)
       have n2_ := Aside0.mk (below_drew1 HB.out)
       clear HO_3
       clear BK130
       clear HB
       have HO_3 := n0_
       have BK130 := n1_
       have HB := n2_
       clear n0_ n1_ n2_
       have p143 : 0 ≤ (0 : Int) := (by omega)
       have q143 : 0 < (l0_3.length : Int) := of_decide_eq_true (by first | (with_reducible assumption) | assumption)
       obtain ⟨ad143, e143, hx143_0⟩ := Kd.at_int HR0_3.out 0 p143 q143
       have hw143_0 := hx143_0
       (try rw [show ((0 : Int)).toNat = 0 from rfl] at hw143_0)
       (try rw [show 0 * 1 = 0 from rfl] at hw143_0)
       (try rw [Addr.add_zero'] at hw143_0)
       cases e143
       have qi143 : (0 < l0_3.length) = True := eq_true (by omega)
       (try rw [show ((0 : Int)).toNat = 0 from rfl] at hx143_0)
       (try rw [Addr.add_zero'] at hx143_0)
       replace hx143_0 := (HB.out.cell (World.block_lt_of_cell? w _ hx143_0)).trans hx143_0
       replace p143 := eq_true p143
       replace q143 := eq_true q143
       refine start_ (n := 12) (S := fun w' => w'.cell? ⟨gb130, 0, none⟩ = some (.int .i64 a0_0) ∧ w'.cell? ⟨gb130, 1, none⟩ = some (.int .i64 a0_1) ∧ w'.cell? ⟨gb130, 2, none⟩ = some (.int .i64 a0_2) ∧ w'.cell? ⟨gb130, 3, none⟩ = some (.slice (some ad143) l0_3.length c0_3) ∧ w'.cell? ⟨gb130, 4, none⟩ = some (.int .i64 a0_4) ∧ w'.cell? ⟨gb130, 5, none⟩ = some (.int .i64 a0_5) ∧ w'.cell? ⟨gb130, 6, none⟩ = some (.int .i64 a0_6) ∧ w'.cell? ad143 = some (.int .i64 (rd l0_3 0))) (ds := []) #[false, false, false, false, false, false, false, false, false, false, false, false] (by kernel_rfl) rfl rfl ⟨(blk_cell BK130.out 0).trans rfl, (blk_cell BK130.out 1).trans rfl, (blk_cell BK130.out 2).trans rfl, (blk_cell BK130.out 3).trans rfl, (blk_cell BK130.out 4).trans rfl, (blk_cell BK130.out 5).trans rfl, (blk_cell BK130.out 6).trans rfl, ((HB.out.cell (World.block_lt_of_cell? w _ hw143_0)).trans hw143_0)⟩ (fun hHeld => ?_); refine with_tabW basculeref03_Bytes.tab10 basculeref03_Bytes.bits10 (fun HT_ HW_ => ?_)
       generalize wc.drew = w25 at HO_3 BK130 HB hx143_0 hHeld ⊢
       refine pure_ (i := 0) (N := some 26) (v := ?_) (a' := ?_) #[true, false, false, false, false, false, false, false, false, false, false, false] rfl rfl (any_of HT_.out (by kernel_rfl)) (fun _ _ _ h => h) (Or.inl ⟨by rfl, ?_⟩) ?_ ?_
       rotate_left
       ·intro w'
        go_simp
        with_reducible rfl
       rotate_left
       ·simp only [Act.put, List.setIfInBounds_toArray, List.set_cons_zero, List.set_cons_succ, i64_w, i32_w]
        rfl
       refine pure_ (i := 1) (N := some 27) (v := ?_) (a' := ?_) #[true, true, false, false, false, false, false, false, false, false, false, false] rfl rfl (any_of HT_.out (by kernel_rfl)) (fun _ _ _ h => h) (Or.inl ⟨by rfl, ?_⟩) ?_ ?_
       rotate_left
       ·intro w'
        go_simp
        with_reducible rfl
       rotate_left
       ·simp only [Act.put, List.setIfInBounds_toArray, List.set_cons_zero, List.set_cons_succ, i64_w, i32_w]
        rfl
       refine pure_ (i := 3) (N := some 29) (v := ?_) (a' := ?_) #[true, true, false, true, false, false, false, false, false, false, false, false] rfl rfl (any_of HT_.out (by kernel_rfl)) (fun _ _ _ h => h) (Or.inl ⟨by rfl, ?_⟩) ?_ ?_
       rotate_left
       ·intro w'
        go_simp
        with_reducible rfl
       rotate_left
       ·simp only [Act.put, List.setIfInBounds_toArray, List.set_cons_zero, List.set_cons_succ, i64_w, i32_w]
        rfl
       refine take_ (i := 2) (N := some 28) (v := ?_) (a' := ?_) #[true, true, true, true, false, false, false, false, false, false, false, false] rfl rfl (take_ofW HT_.out HW_.out (by kernel_rfl)) (fun _ _ _ h => h) (Or.inl ⟨by rfl, ?_⟩) hHeld ?_ ?_
       rotate_left
       ·rintro w' ⟨s0, s1, s2, s3, s4, s5, s6, s7⟩
        go_simp
        with_reducible rfl
       rotate_left
       ·simp only [Act.put, List.setIfInBounds_toArray, List.set_cons_zero, List.set_cons_succ, i64_w, i32_w]
        rfl
       refine take_ (i := 4) (N := some 30) (v := ?_) (a' := ?_) #[true, true, true, true, true, false, false, false, false, false, false, false] rfl rfl (take_ofW HT_.out HW_.out (by kernel_rfl)) (fun _ _ _ h => h) (Or.inl ⟨by rfl, ?_⟩) hHeld ?_ ?_
       rotate_left
       ·rintro w' ⟨s0, s1, s2, s3, s4, s5, s6, s7⟩
        go_simp
        with_reducible rfl
       rotate_left
       ·simp only [Act.put, List.setIfInBounds_toArray, List.set_cons_zero, List.set_cons_succ, i64_w, i32_w]
        rfl
       refine pure_ (i := 5) (N := some 31) (v := ?_) (a' := ?_) #[true, true, true, true, true, true, false, false, false, false, false, false] rfl rfl (any_of HT_.out (by kernel_rfl)) (fun _ _ _ h => h) (Or.inl ⟨by rfl, ?_⟩) ?_ ?_
       rotate_left
       ·intro w'
        go_simp
        with_reducible rfl
       rotate_left
       ·simp only [Act.put, List.setIfInBounds_toArray, List.set_cons_zero, List.set_cons_succ, i64_w, i32_w]
        rfl
       refine take_ (i := 6) (N := some 32) (v := ?_) (a' := ?_) #[true, true, true, true, true, true, true, false, false, false, false, false] rfl rfl (take_ofW HT_.out HW_.out (by kernel_rfl)) (fun _ _ _ h => h) (Or.inl ⟨by rfl, ?_⟩) hHeld ?_ ?_
       rotate_left
       ·rintro w' ⟨s0, s1, s2, s3, s4, s5, s6, s7⟩
        go_simp
        with_reducible rfl
       rotate_left
       ·simp only [Act.put, List.setIfInBounds_toArray, List.set_cons_zero, List.set_cons_succ, i64_w, i32_w]
        rfl
       refine pure_ (i := 7) (N := some 33) (v := ?_) (a' := ?_) #[true, true, true, true, true, true, true, true, false, false, false, false] rfl rfl (any_of HT_.out (by kernel_rfl)) (fun _ _ _ h => h) (Or.inl ⟨by rfl, ?_⟩) ?_ ?_
       rotate_left
       ·intro w'
        go_simp
        with_reducible rfl
       rotate_left
       ·simp only [Act.put, List.setIfInBounds_toArray, List.set_cons_zero, List.set_cons_succ, i64_w, i32_w]
        rfl
       refine one_ (i := 8) (N := some 34) #[true, true, true, true, true, true, true, true, true, false, false, false] rfl rfl (one_of HT_.out (by kernel_rfl)) (by decide) (fun K hK => ?_)
       refine Kd.R_lit_step (Kd.int .i64) _ 3 ?hg (N := 34) ?hd (xs := ([a0_1, wrap64 (65280 * (rd l0_3 0))] : List Int)) (inner := [.int .i64 a0_1, .int .i64 (wrap64 (65280 * (rd l0_3 0)))]) (ok := fun _ => True) (okp := fun _ => True) ?hr ?hp (fun _ hk => hk) trivial (Below.refl _ _) (Nat.le_refl _) (by simp) ?_; (case hd => rfl); (case hg => rfl); (case hr => first | (go_simp; done) | (go_simp; rfl)); (case hp => exact (Reps.one (show Kd.M (Kd.int .i64) _ _ _ a0_1 [.int .i64 a0_1] from rfl) (Reps.one (show Kd.M (Kd.int .i64) _ _ _ (wrap64 (65280 * (rd l0_3 0))) [.int .i64 (wrap64 (65280 * (rd l0_3 0)))] from rfl) (Reps.none _ _))))
       intro v145 w26 ho27 hb hg_ hnew_
       clear hg_ hnew_
       (first | rw [← Ny144.out] at ho27 | (simp only [Int.reduceToNat] at ho27; rw [← Ny144.out] at ho27))
       have n0_ := Aside0.mk (Kd.R_below (kr_ HO_3) hb)
       have n1_ := Aside0.mk (Kd.R_lower ho27 (below_size (bl1_ HB GE130)))
       have n2_ := Aside0.mk (blk_below (g := gb130) (bk_ BK130) hb)
       have n3_ := Aside0.mk (below_step (bl1_ HB GE130) hb)
       clear HO_3
       clear BK130
       clear HB
       have HO_3 := n0_
       have HO146 := n1_
       have BK130 := n2_
       have HB := n3_
       clear n0_ n1_ n2_ n3_
       clear hb ho27
       obtain ⟨Ao28, co28, eo28⟩ := Kd.R_slice HO146.out
       (first | subst eo28 | (injection eo28 with f1_ f2_ f3_; have f4_ := f1_.symm; have f5_ := f3_.symm; clear f1_ f2_ f3_; subst f4_; subst f5_))
       refine hK.out _ _ ⟨(blk_cell BK130.out 0).trans rfl, (blk_cell BK130.out 1).trans rfl, (blk_cell BK130.out 2).trans rfl, (blk_cell BK130.out 3).trans rfl, (blk_cell BK130.out 4).trans rfl, (blk_cell BK130.out 5).trans rfl, (blk_cell BK130.out 6).trans rfl, ((HB.out.cell (World.block_lt_of_cell? w _ hw143_0)).trans hw143_0)⟩ (fun hHeld => ?_)
       clear hK K
       refine norm_ (a' := ?_) ?_ ?_
       rotate_left
       ·show Act.put _ (some 34) _ = _
        simp only [Act.put, List.setIfInBounds_toArray, List.set_cons_zero, List.set_cons_succ, i64_w, i32_w]
        rfl
       refine one_ (i := 9) (N := some 35) #[true, true, true, true, true, true, true, true, true, true, false, false] rfl rfl (one_of HT_.out (by kernel_rfl)) (by decide) (fun K hK => ?_)
       refine goes_ Try.func56 (by kernel_rfl) rfl #[.slice Ao28 y144.length co28] (by rfl) rfl rfl ar_ ?_
       with_reducible refine (basculeref03_lay.calls kj1 _ _ y144 t147 _ ?side1 ?side2 A23.out).mono ?_
       (case side1 => exact sc_ (Kd.R_reads' HO146.out).2.2)
       (case side2 => exact (Kd.R_reads' HO146.out).2.1)
       rintro e w29 ⟨v148, rfl, ho0, hb⟩
       refine ⟨_, rfl, ?_⟩
       have n0_ := Aside0.mk (Kd.R_elder' (kr_ HO_3) (Kd.R_base ho0) hb)
       have n1_ := Aside0.mk (Kd.R_below (kr_ HO146) hb)
       have n2_ := Aside0.mk (Kd.R_lower (Kd.R_new' ho0 (Kd.R_lt (kr_ HO_3))) (below_size (bl1_ HB GE130)))
       have n3_ := Aside0.mk (blk_below (g := gb130) (bk_ BK130) hb)
       have n4_ := Aside0.mk (below_step (bl1_ HB GE130) hb)
       clear HO_3
       clear HO146
       clear BK130
       clear HB
       have HO_3 := n0_
       have HO146 := n1_
       have HO149 := n2_
       have BK130 := n3_
       have HB := n4_
       clear n0_ n1_ n2_ n3_ n4_
       (try clear hb)
       (try clear hb2)
       (try clear hk)
       (try clear hi)
       (try clear ho0)
       obtain ⟨Ao31, co31, eo31⟩ := Kd.R_slice HO149.out
       (first | subst eo31 | (injection eo31 with f1_ f2_ f3_; have f4_ := f1_.symm; have f5_ := f3_.symm; clear f1_ f2_ f3_; subst f4_; subst f5_))
       refine hK.out _ _ ⟨(blk_cell BK130.out 0).trans rfl, (blk_cell BK130.out 1).trans rfl, (blk_cell BK130.out 2).trans rfl, (blk_cell BK130.out 3).trans rfl, (blk_cell BK130.out 4).trans rfl, (blk_cell BK130.out 5).trans rfl, (blk_cell BK130.out 6).trans rfl, ((HB.out.cell (World.block_lt_of_cell? w _ hw143_0)).trans hw143_0)⟩ (fun hHeld => ?_)
       clear hK K
       refine norm_ (a' := ?_) ?_ ?_
       rotate_left
       ·show Act.put _ (some 35) _ = _
        simp only [Act.put, List.setIfInBounds_toArray, List.set_cons_zero, List.set_cons_succ, i64_w, i32_w]
        rfl
       refine one_ (i := 10) (N := some 36) #[true, true, true, true, true, true, true, true, true, true, true, false] rfl rfl (one_of HT_.out (by kernel_rfl)) (by decide) (fun K hK => ?_)
       refine Kd.R_append_rows_step (Kd.int .u8) (w0 := w) w.heap.size (by rfl) (.tmp 26) (.tmp 35) 58 5 (.int .u8 0) 1 rfl Try.underlying58 info5 rfl (by decide) (by omega) v132 y131 t147 _ _ _ (fun k_ => some k_ ≠ (.slice Ao31 t147.length co31 : Value).ownBlock) (fun _ => False) rfl rfl ?aO ?aR (fun _ _ h => h) (fun _ h => h.elim) ?aF ?aB ?aS ?aL ?_
       (case aR => exact sc_ (Kd.R_reads' HO149.out).2.2)
       (case aB => exact (bl1_ HB GE130))
       (case aF => exact (fun k_ hk => Kd.fresh' (Kd.R_lt (kr_ HO149)) k_ hk))
       (case aO => exact (by (with_reducible repeat (first | apply Kd.R_alloc | apply Kd.R_drewN | apply Kd.R_drew)); exact Kd.R_mono HO_3.out (fun _ hk => hk.2)))
       (case aS => exact (below_size (bl1_ HB GE130)))
       (case aL => have := LMc24.out; omega)
       intro v151 w30 ho hb hg hat
       rw [← Ny150.out] at ho
       have n0_ := Aside0.mk (blk_grown (g := gb130) (bk_ BK130) hg (Kd.R_ne HO_3.out BK130.out (by decide)))
       have n1_ := Aside0.mk (Kd.R_over' (kr_ HO146) (Kd.R_typed (kr_ HO_3)) (by decide) hg)
       have n2_ := Aside0.mk (Kd.R_after (ok := (fun _ => True)) (kr_ HO149) hg hat)
       have n3_ := Aside0.mk (hb)
       have n4_ := Aside0.mk (ho)
       clear BK130
       clear HO146
       clear HO149
       clear HB
       clear HO_3
       have BK130 := n0_
       have HO146 := n1_
       have HO149 := n2_
       have HB := n3_
       have HO152 := n4_
       clear n0_ n1_ n2_ n3_ n4_
       clear ho hb hg hat
       refine hK.out _ _ ⟨(blk_cell BK130.out 0).trans rfl, (blk_cell BK130.out 1).trans rfl, (blk_cell BK130.out 2).trans rfl, (blk_cell BK130.out 3).trans rfl, (blk_cell BK130.out 4).trans rfl, (blk_cell BK130.out 5).trans rfl, (blk_cell BK130.out 6).trans rfl, ((HB.out.cell (World.block_lt_of_cell? w _ hw143_0)).trans hw143_0)⟩ (fun hHeld => ?_)
       clear hK K
       refine norm_ (a' := ?_) ?_ ?_
       rotate_left
       ·show Act.put _ (some 36) _ = _
        simp only [Act.put, List.setIfInBounds_toArray, List.set_cons_zero, List.set_cons_succ, i64_w, i32_w]
        rfl
       refine pure_ (i := 11) (N := some 3) (v := ?_) (a' := ?_) #[true, true, true, true, true, true, true, true, true, true, true, true] rfl rfl (any_of HT_.out (by kernel_rfl)) (fun _ _ _ h => h) (Or.inl ⟨by rfl, ?_⟩) ?_ ?_
       rotate_left
       ·intro w'
        go_simp
        with_reducible rfl
       rotate_left
       ·simp only [Act.put, List.setIfInBounds_toArray, List.set_cons_zero, List.set_cons_succ, i64_w, i32_w]
        rfl
       refine done_ (done_of HT_.out (by kernel_rfl)) ?_
       try go_wp2
       go_ret
       exact ⟨_, er_, by (with_reducible repeat (first | apply Kd.R_alloc | apply Kd.R_drewN | apply Kd.R_drew)); exact Kd.R_mono HO152.out (fun _ hk => trivial), bl1_ HB GE130⟩
      ·rw [if_neg c24] at H
       exact absurd H (by simp)
     ·rw [if_neg c22] at H
      exact absurd H (by simp)
    ·rw [if_neg c21] at H
     have c21b0 : (a0_0 == 5) = false := beq_eq_false_iff_ne.mpr c21
     have c21b1 : (a0_0 != 5) = true := bne_iff_ne.mpr c21
     by_cases c32 : a0_0 = 6
     ·rw [if_pos c32] at H
      have c32b0 : (a0_0 == 6) = true := beq_iff_eq.mpr c32
      have c32b1 : (a0_0 != 6) = false := bne_eq_false_iff_eq.mpr c32
      clear c32
      by_cases c33 : 0 < (l0_3.length : Int)
      ·rw [if_pos c33] at H
       have c33b0 : decide (0 < (l0_3.length : Int)) = true := decide_eq_true c33
       have c33b1 : decide (0 < l0_3.length) = true := decide_eq_true (by omega)
       clear c33
       obtain ⟨y154, hy154⟩ : ∃ y_ : List Int, y_ = (([a0_1, rd l0_3 0] : List Int)) := ⟨_, rfl⟩
       replace H : ((basculeref03_lay.f kj1 y154).bind fun t157 => (if y131.length + t157.length < 140737488355328 then (some (y131 ++ t157)) else (none))) = some r := by first | (rw [hy154]; with_reducible exact H) | (have H2_ := (Option.bind_some _ _).symm.trans H; rw [hy154]; with_reducible exact H2_) | (have H2_ := (Option.bind_some _ _).symm.trans H; with_reducible exact H2_) | with_reducible exact H | (rw [hy154]; exact H) | exact H
       have Ny154 := Aside0.mk hy154
       clear hy154
       replace H := Option.bind_eq_some_iff.mp H
       obtain ⟨t157, A340, H⟩ := H
       replace H : (if y131.length + t157.length < 140737488355328 then (some (y131 ++ t157)) else (none)) = some r := H
       have A34 := Aside0.mk A340
       clear A340
       by_cases c35 : y131.length + t157.length < 140737488355328
       ·rw [if_pos c35] at H
        have LMc35 := Aside0.mk c35
        clear c35
        obtain ⟨y160, hy160⟩ : ∃ y_ : List Int, y_ = (y131 ++ t157) := ⟨_, rfl⟩
        replace H : (some y160) = some r := by first | (rw [hy160]; with_reducible exact H) | (have H2_ := (Option.bind_some _ _).symm.trans H; rw [hy160]; with_reducible exact H2_) | (have H2_ := (Option.bind_some _ _).symm.trans H; with_reducible exact H2_) | with_reducible exact H | (rw [hy160]; exact H) | exact H
        have Ny160 := Aside0.mk hy160
        clear hy160
        obtain rfl := Option.some.inj H
        try go_wp2
        have n0_ := Aside0.mk (Kd.R_drew HO_3.out)
        have n1_ := Aside0.mk (blk_drew BK130.out)
        have n2_ := Aside0.mk (below_drew1 HB.out)
        clear HO_3
        clear BK130
        clear HB
        have HO_3 := n0_
        have BK130 := n1_
        have HB := n2_
        clear n0_ n1_ n2_
        have p153 : 0 ≤ (0 : Int) := (by omega)
        have q153 : 0 < (l0_3.length : Int) := of_decide_eq_true (by first | (with_reducible assumption) | assumption)
        obtain ⟨ad153, e153, hx153_0⟩ := Kd.at_int HR0_3.out 0 p153 q153
        have hw153_0 := hx153_0
        (try rw [show ((0 : Int)).toNat = 0 from rfl] at hw153_0)
        (try rw [show 0 * 1 = 0 from rfl] at hw153_0)
        (try rw [Addr.add_zero'] at hw153_0)
        cases e153
        have qi153 : (0 < l0_3.length) = True := eq_true (by omega)
        (try rw [show ((0 : Int)).toNat = 0 from rfl] at hx153_0)
        (try rw [Addr.add_zero'] at hx153_0)
        replace hx153_0 := (HB.out.cell (World.block_lt_of_cell? w _ hx153_0)).trans hx153_0
        replace p153 := eq_true p153
        replace q153 := eq_true q153
        refine start_ (n := 11) (S := fun w' => w'.cell? ⟨gb130, 0, none⟩ = some (.int .i64 a0_0) ∧ w'.cell? ⟨gb130, 1, none⟩ = some (.int .i64 a0_1) ∧ w'.cell? ⟨gb130, 2, none⟩ = some (.int .i64 a0_2) ∧ w'.cell? ⟨gb130, 3, none⟩ = some (.slice (some ad153) l0_3.length c0_3) ∧ w'.cell? ⟨gb130, 4, none⟩ = some (.int .i64 a0_4) ∧ w'.cell? ⟨gb130, 5, none⟩ = some (.int .i64 a0_5) ∧ w'.cell? ⟨gb130, 6, none⟩ = some (.int .i64 a0_6) ∧ w'.cell? ad153 = some (.int .i64 (rd l0_3 0))) (ds := []) #[false, false, false, false, false, false, false, false, false, false, false] (by kernel_rfl) rfl rfl ⟨(blk_cell BK130.out 0).trans rfl, (blk_cell BK130.out 1).trans rfl, (blk_cell BK130.out 2).trans rfl, (blk_cell BK130.out 3).trans rfl, (blk_cell BK130.out 4).trans rfl, (blk_cell BK130.out 5).trans rfl, (blk_cell BK130.out 6).trans rfl, ((HB.out.cell (World.block_lt_of_cell? w _ hw153_0)).trans hw153_0)⟩ (fun hHeld => ?_); refine with_tabW basculeref03_Bytes.tab13 basculeref03_Bytes.bits13 (fun HT_ HW_ => ?_)
        generalize wc.drew = w36 at HO_3 BK130 HB hx153_0 hHeld ⊢
        refine pure_ (i := 0) (N := some 40) (v := ?_) (a' := ?_) #[true, false, false, false, false, false, false, false, false, false, false] rfl rfl (any_of HT_.out (by kernel_rfl)) (fun _ _ _ h => h) (Or.inl ⟨by rfl, ?_⟩) ?_ ?_
        rotate_left
        ·intro w'
         go_simp
         with_reducible rfl
        rotate_left
        ·simp only [Act.put, List.setIfInBounds_toArray, List.set_cons_zero, List.set_cons_succ, i64_w, i32_w]
         rfl
        refine pure_ (i := 1) (N := some 41) (v := ?_) (a' := ?_) #[true, true, false, false, false, false, false, false, false, false, false] rfl rfl (any_of HT_.out (by kernel_rfl)) (fun _ _ _ h => h) (Or.inl ⟨by rfl, ?_⟩) ?_ ?_
        rotate_left
        ·intro w'
         go_simp
         with_reducible rfl
        rotate_left
        ·simp only [Act.put, List.setIfInBounds_toArray, List.set_cons_zero, List.set_cons_succ, i64_w, i32_w]
         rfl
        refine pure_ (i := 3) (N := some 43) (v := ?_) (a' := ?_) #[true, true, false, true, false, false, false, false, false, false, false] rfl rfl (any_of HT_.out (by kernel_rfl)) (fun _ _ _ h => h) (Or.inl ⟨by rfl, ?_⟩) ?_ ?_
        rotate_left
        ·intro w'
         go_simp
         with_reducible rfl
        rotate_left
        ·simp only [Act.put, List.setIfInBounds_toArray, List.set_cons_zero, List.set_cons_succ, i64_w, i32_w]
         rfl
        refine take_ (i := 2) (N := some 42) (v := ?_) (a' := ?_) #[true, true, true, true, false, false, false, false, false, false, false] rfl rfl (take_ofW HT_.out HW_.out (by kernel_rfl)) (fun _ _ _ h => h) (Or.inl ⟨by rfl, ?_⟩) hHeld ?_ ?_
        rotate_left
        ·rintro w' ⟨s0, s1, s2, s3, s4, s5, s6, s7⟩
         go_simp
         with_reducible rfl
        rotate_left
        ·simp only [Act.put, List.setIfInBounds_toArray, List.set_cons_zero, List.set_cons_succ, i64_w, i32_w]
         rfl
        refine take_ (i := 4) (N := some 44) (v := ?_) (a' := ?_) #[true, true, true, true, true, false, false, false, false, false, false] rfl rfl (take_ofW HT_.out HW_.out (by kernel_rfl)) (fun _ _ _ h => h) (Or.inl ⟨by rfl, ?_⟩) hHeld ?_ ?_
        rotate_left
        ·rintro w' ⟨s0, s1, s2, s3, s4, s5, s6, s7⟩
         go_simp
         with_reducible rfl
        rotate_left
        ·simp only [Act.put, List.setIfInBounds_toArray, List.set_cons_zero, List.set_cons_succ, i64_w, i32_w]
         rfl
        refine pure_ (i := 5) (N := some 45) (v := ?_) (a' := ?_) #[true, true, true, true, true, true, false, false, false, false, false] rfl rfl (any_of HT_.out (by kernel_rfl)) (fun _ _ _ h => h) (Or.inl ⟨by rfl, ?_⟩) ?_ ?_
        rotate_left
        ·intro w'
         go_simp
         with_reducible rfl
        rotate_left
        ·simp only [Act.put, List.setIfInBounds_toArray, List.set_cons_zero, List.set_cons_succ, i64_w, i32_w]
         rfl
        refine take_ (i := 6) (N := some 46) (v := ?_) (a' := ?_) #[true, true, true, true, true, true, true, false, false, false, false] rfl rfl (take_ofW HT_.out HW_.out (by kernel_rfl)) (fun _ _ _ h => h) (Or.inl ⟨by rfl, ?_⟩) hHeld ?_ ?_
        rotate_left
        ·rintro w' ⟨s0, s1, s2, s3, s4, s5, s6, s7⟩
         go_simp
         with_reducible rfl
        rotate_left
        ·simp only [Act.put, List.setIfInBounds_toArray, List.set_cons_zero, List.set_cons_succ, i64_w, i32_w]
         rfl
        refine one_ (i := 7) (N := some 47) #[true, true, true, true, true, true, true, true, false, false, false] rfl rfl (one_of HT_.out (by kernel_rfl)) (by decide) (fun K hK => ?_)
        refine Kd.R_lit_step (Kd.int .i64) _ 3 ?hg (N := 47) ?hd (xs := ([a0_1, rd l0_3 0] : List Int)) (inner := [.int .i64 a0_1, .int .i64 (rd l0_3 0)]) (ok := fun _ => True) (okp := fun _ => True) ?hr ?hp (fun _ hk => hk) trivial (Below.refl _ _) (Nat.le_refl _) (by simp) ?_; (case hd => rfl); (case hg => rfl); (case hr => first | (go_simp; done) | (go_simp; rfl)); (case hp => exact (Reps.one (show Kd.M (Kd.int .i64) _ _ _ a0_1 [.int .i64 a0_1] from rfl) (Reps.one (show Kd.M (Kd.int .i64) _ _ _ (rd l0_3 0) [.int .i64 (rd l0_3 0)] from rfl) (Reps.none _ _))))
        intro v155 w37 ho38 hb hg_ hnew_
        clear hg_ hnew_
        (first | rw [← Ny154.out] at ho38 | (simp only [Int.reduceToNat] at ho38; rw [← Ny154.out] at ho38))
        have n0_ := Aside0.mk (Kd.R_below (kr_ HO_3) hb)
        have n1_ := Aside0.mk (Kd.R_lower ho38 (below_size (bl1_ HB GE130)))
        have n2_ := Aside0.mk (blk_below (g := gb130) (bk_ BK130) hb)
        have n3_ := Aside0.mk (below_step (bl1_ HB GE130) hb)
        clear HO_3
        clear BK130
        clear HB
        have HO_3 := n0_
        have HO156 := n1_
        have BK130 := n2_
        have HB := n3_
        clear n0_ n1_ n2_ n3_
        clear hb ho38
        obtain ⟨Ao39, co39, eo39⟩ := Kd.R_slice HO156.out
        (first | subst eo39 | (injection eo39 with f1_ f2_ f3_; have f4_ := f1_.symm; have f5_ := f3_.symm; clear f1_ f2_ f3_; subst f4_; subst f5_))
        refine hK.out _ _ ⟨(blk_cell BK130.out 0).trans rfl, (blk_cell BK130.out 1).trans rfl, (blk_cell BK130.out 2).trans rfl, (blk_cell BK130.out 3).trans rfl, (blk_cell BK130.out 4).trans rfl, (blk_cell BK130.out 5).trans rfl, (blk_cell BK130.out 6).trans rfl, ((HB.out.cell (World.block_lt_of_cell? w _ hw153_0)).trans hw153_0)⟩ (fun hHeld => ?_)
        clear hK K
        refine norm_ (a' := ?_) ?_ ?_
        rotate_left
        ·show Act.put _ (some 47) _ = _
         simp only [Act.put, List.setIfInBounds_toArray, List.set_cons_zero, List.set_cons_succ, i64_w, i32_w]
         rfl
        refine one_ (i := 8) (N := some 48) #[true, true, true, true, true, true, true, true, true, false, false] rfl rfl (one_of HT_.out (by kernel_rfl)) (by decide) (fun K hK => ?_)
        refine goes_ Try.func56 (by kernel_rfl) rfl #[.slice Ao39 y154.length co39] (by rfl) rfl rfl ar_ ?_
        with_reducible refine (basculeref03_lay.calls kj1 _ _ y154 t157 _ ?side1 ?side2 A34.out).mono ?_
        (case side1 => exact sc_ (Kd.R_reads' HO156.out).2.2)
        (case side2 => exact (Kd.R_reads' HO156.out).2.1)
        rintro e w40 ⟨v158, rfl, ho0, hb⟩
        refine ⟨_, rfl, ?_⟩
        have n0_ := Aside0.mk (Kd.R_elder' (kr_ HO_3) (Kd.R_base ho0) hb)
        have n1_ := Aside0.mk (Kd.R_below (kr_ HO156) hb)
        have n2_ := Aside0.mk (Kd.R_lower (Kd.R_new' ho0 (Kd.R_lt (kr_ HO_3))) (below_size (bl1_ HB GE130)))
        have n3_ := Aside0.mk (blk_below (g := gb130) (bk_ BK130) hb)
        have n4_ := Aside0.mk (below_step (bl1_ HB GE130) hb)
        clear HO_3
        clear HO156
        clear BK130
        clear HB
        have HO_3 := n0_
        have HO156 := n1_
        have HO159 := n2_
        have BK130 := n3_
        have HB := n4_
        clear n0_ n1_ n2_ n3_ n4_
        (try clear hb)
        (try clear hb2)
        (try clear hk)
        (try clear hi)
        (try clear ho0)
        obtain ⟨Ao42, co42, eo42⟩ := Kd.R_slice HO159.out
        (first | subst eo42 | (injection eo42 with f1_ f2_ f3_; have f4_ := f1_.symm; have f5_ := f3_.symm; clear f1_ f2_ f3_; subst f4_; subst f5_))
        refine hK.out _ _ ⟨(blk_cell BK130.out 0).trans rfl, (blk_cell BK130.out 1).trans rfl, (blk_cell BK130.out 2).trans rfl, (blk_cell BK130.out 3).trans rfl, (blk_cell BK130.out 4).trans rfl, (blk_cell BK130.out 5).trans rfl, (blk_cell BK130.out 6).trans rfl, ((HB.out.cell (World.block_lt_of_cell? w _ hw153_0)).trans hw153_0)⟩ (fun hHeld => ?_)
        clear hK K
        refine norm_ (a' := ?_) ?_ ?_
        rotate_left
        ·show Act.put _ (some 48) _ = _
         simp only [Act.put, List.setIfInBounds_toArray, List.set_cons_zero, List.set_cons_succ, i64_w, i32_w]
         rfl
        refine one_ (i := 9) (N := some 49) #[true, true, true, true, true, true, true, true, true, true, false] rfl rfl (one_of HT_.out (by kernel_rfl)) (by decide) (fun K hK => ?_)
        refine Kd.R_append_rows_step (Kd.int .u8) (w0 := w) w.heap.size (by rfl) (.tmp 40) (.tmp 48) 58 5 (.int .u8 0) 1 rfl Try.underlying58 info5 rfl (by decide) (by omega) v132 y131 t157 _ _ _ (fun k_ => some k_ ≠ (.slice Ao42 t157.length co42 : Value).ownBlock) (fun _ => False) rfl rfl ?aO ?aR (fun _ _ h => h) (fun _ h => h.elim) ?aF ?aB ?aS ?aL ?_
        (case aR => exact sc_ (Kd.R_reads' HO159.out).2.2)
        (case aB => exact (bl1_ HB GE130))
        (case aF => exact (fun k_ hk => Kd.fresh' (Kd.R_lt (kr_ HO159)) k_ hk))
        (case aO => exact (by (with_reducible repeat (first | apply Kd.R_alloc | apply Kd.R_drewN | apply Kd.R_drew)); exact Kd.R_mono HO_3.out (fun _ hk => hk.2)))
        (case aS => exact (below_size (bl1_ HB GE130)))
        (case aL => have := LMc35.out; omega)
        intro v161 w41 ho hb hg hat
        rw [← Ny160.out] at ho
        have n0_ := Aside0.mk (blk_grown (g := gb130) (bk_ BK130) hg (Kd.R_ne HO_3.out BK130.out (by decide)))
        have n1_ := Aside0.mk (Kd.R_over' (kr_ HO156) (Kd.R_typed (kr_ HO_3)) (by decide) hg)
        have n2_ := Aside0.mk (Kd.R_after (ok := (fun _ => True)) (kr_ HO159) hg hat)
        have n3_ := Aside0.mk (hb)
        have n4_ := Aside0.mk (ho)
        clear BK130
        clear HO156
        clear HO159
        clear HB
        clear HO_3
        have BK130 := n0_
        have HO156 := n1_
        have HO159 := n2_
        have HB := n3_
        have HO162 := n4_
        clear n0_ n1_ n2_ n3_ n4_
        clear ho hb hg hat
        refine hK.out _ _ ⟨(blk_cell BK130.out 0).trans rfl, (blk_cell BK130.out 1).trans rfl, (blk_cell BK130.out 2).trans rfl, (blk_cell BK130.out 3).trans rfl, (blk_cell BK130.out 4).trans rfl, (blk_cell BK130.out 5).trans rfl, (blk_cell BK130.out 6).trans rfl, ((HB.out.cell (World.block_lt_of_cell? w _ hw153_0)).trans hw153_0)⟩ (fun hHeld => ?_)
        clear hK K
        refine norm_ (a' := ?_) ?_ ?_
        rotate_left
        ·show Act.put _ (some 49) _ = _
         simp only [Act.put, List.setIfInBounds_toArray, List.set_cons_zero, List.set_cons_succ, i64_w, i32_w]
         rfl
        refine pure_ (i := 10) (N := some 3) (v := ?_) (a' := ?_) #[true, true, true, true, true, true, true, true, true, true, true] rfl rfl (any_of HT_.out (by kernel_rfl)) (fun _ _ _ h => h) (Or.inl ⟨by rfl, ?_⟩) ?_ ?_
        rotate_left
        ·intro w'
         go_simp
         with_reducible rfl
        rotate_left
        ·simp only [Act.put, List.setIfInBounds_toArray, List.set_cons_zero, List.set_cons_succ, i64_w, i32_w]
         rfl
        refine done_ (done_of HT_.out (by kernel_rfl)) ?_
        try go_wp2
        go_ret
        exact ⟨_, er_, by (with_reducible repeat (first | apply Kd.R_alloc | apply Kd.R_drewN | apply Kd.R_drew)); exact Kd.R_mono HO162.out (fun _ hk => trivial), bl1_ HB GE130⟩
       ·rw [if_neg c35] at H
        exact absurd H (by simp)
      ·rw [if_neg c33] at H
       exact absurd H (by simp)
     ·rw [if_neg c32] at H
      have c32b0 : (a0_0 == 6) = false := beq_eq_false_iff_ne.mpr c32
      have c32b1 : (a0_0 != 6) = true := bne_iff_ne.mpr c32
      by_cases c43 : a0_0 = 15
      ·rw [if_pos c43] at H
       have c43b0 : (a0_0 == 15) = true := beq_iff_eq.mpr c43
       have c43b1 : (a0_0 != 15) = false := bne_eq_false_iff_eq.mpr c43
       clear c43
       obtain ⟨y163, hy163⟩ : ∃ y_ : List Int, y_ = (([a0_1, a0_2] : List Int)) := ⟨_, rfl⟩
       replace H : ((basculeref03_lay.f kj1 y163).bind fun t166 => (if y131.length + t166.length < 140737488355328 then ((some (y131 ++ t166 : List Int)).bind fun y169 => ((basculeref01_Pack.f kj1 l0_3).bind fun t172 => ((basculeref03_counted.f t172).bind fun t175 => (if y169.length + t175.length < 140737488355328 then (some (y169 ++ t175)) else (none))))) else (none))) = some r := by first | (rw [hy163]; with_reducible exact H) | (have H2_ := (Option.bind_some _ _).symm.trans H; rw [hy163]; with_reducible exact H2_) | (have H2_ := (Option.bind_some _ _).symm.trans H; with_reducible exact H2_) | with_reducible exact H | (rw [hy163]; exact H) | exact H
       have Ny163 := Aside0.mk hy163
       clear hy163
       replace H := Option.bind_eq_some_iff.mp H
       obtain ⟨t166, A440, H⟩ := H
       replace H : (if y131.length + t166.length < 140737488355328 then ((some (y131 ++ t166 : List Int)).bind fun y169 => ((basculeref01_Pack.f kj1 l0_3).bind fun t172 => ((basculeref03_counted.f t172).bind fun t175 => (if y169.length + t175.length < 140737488355328 then (some (y169 ++ t175)) else (none))))) else (none)) = some r := H
       have A44 := Aside0.mk A440
       clear A440
       by_cases c45 : y131.length + t166.length < 140737488355328
       ·rw [if_pos c45] at H
        have LMc45 := Aside0.mk c45
        clear c45
        obtain ⟨y169, hy169⟩ : ∃ y_ : List Int, y_ = (y131 ++ t166) := ⟨_, rfl⟩
        replace H : ((basculeref01_Pack.f kj1 l0_3).bind fun t172 => ((basculeref03_counted.f t172).bind fun t175 => (if y169.length + t175.length < 140737488355328 then (some (y169 ++ t175)) else (none)))) = some r := by first | (rw [hy169]; with_reducible exact H) | (have H2_ := (Option.bind_some _ _).symm.trans H; rw [hy169]; with_reducible exact H2_) | (have H2_ := (Option.bind_some _ _).symm.trans H; with_reducible exact H2_) | with_reducible exact H | (rw [hy169]; exact H) | exact H
        have Ny169 := Aside0.mk hy169
        clear hy169
        replace H := Option.bind_eq_some_iff.mp H
        obtain ⟨t172, A460, H⟩ := H
        replace H : ((basculeref03_counted.f t172).bind fun t175 => (if y169.length + t175.length < 140737488355328 then (some (y169 ++ t175)) else (none))) = some r := H
        have A46 := Aside0.mk A460
        clear A460
        replace H := Option.bind_eq_some_iff.mp H
        obtain ⟨t175, A470, H⟩ := H
        replace H : (if y169.length + t175.length < 140737488355328 then (some (y169 ++ t175)) else (none)) = some r := H
        have A47 := Aside0.mk A470
        clear A470
        by_cases c48 : y169.length + t175.length < 140737488355328
        ·rw [if_pos c48] at H
         have LMc48 := Aside0.mk c48
         clear c48
         obtain ⟨y178, hy178⟩ : ∃ y_ : List Int, y_ = (y169 ++ t175) := ⟨_, rfl⟩
         replace H : (some y178) = some r := by first | (rw [hy178]; with_reducible exact H) | (have H2_ := (Option.bind_some _ _).symm.trans H; rw [hy178]; with_reducible exact H2_) | (have H2_ := (Option.bind_some _ _).symm.trans H; with_reducible exact H2_) | with_reducible exact H | (rw [hy178]; exact H) | exact H
         have Ny178 := Aside0.mk hy178
         clear hy178
         obtain rfl := Option.some.inj H
         refine cz7_ BK130.out ?_; intro hcz49_0 hcz49_1 hcz49_2 hcz49_3 hcz49_4 hcz49_5 hcz49_6 hfz49_0 hfz49_1 hfz49_2 hfz49_3 hfz49_4 hfz49_5 hfz49_6
         go_wp2_with (first | ((with_reducible refine gate_dst (N := 58) rfl ?_); refine Kd.R_lit (Kd.int .i64) _ 3 ?hg (N := 58) ?hd (xs := ([a0_1, a0_2] : List Int)) (inner := [.int .i64 a0_1, .int .i64 a0_2]) (ok := fun _ => True) (okp := fun _ => True) ?hr ?hp (fun _ hk => hk) trivial (Below.refl _ _) (Nat.le_refl _) (by simp) ?_; (case hd => rfl); (case hg => rfl); (case hr => first | (go_simp; done) | (go_simp; rfl)); (case hp => exact (Reps.one (show Kd.M (Kd.int .i64) _ _ _ a0_1 [.int .i64 a0_1] from rfl) (Reps.one (show Kd.M (Kd.int .i64) _ _ _ a0_2 [.int .i64 a0_2] from rfl) (Reps.none _ _)))); intro v164 w50 ho51 hb hg_ hnew_; clear hg_ hnew_; (first | rw [← Ny163.out] at ho51 | (simp only [Int.reduceToNat] at ho51; rw [← Ny163.out] at ho51)); have n0_ := Aside0.mk (Kd.R_below (kr_ HO_3) hb); have n1_ := Aside0.mk (Kd.R_lower ho51 (below_size (bl1_ HB GE130))); have n2_ := Aside0.mk (blk_below (g := gb130) (bk_ BK130) hb); have n3_ := Aside0.mk (below_step (bl1_ HB GE130) hb); clear HO_3; clear BK130; clear HB; have HO_3 := n0_; have HO165 := n1_; have BK130 := n2_; have HB := n3_; clear n0_ n1_ n2_ n3_; clear hb ho51; obtain ⟨Ao52, co52, eo52⟩ := Kd.R_slice HO165.out; subst eo52) | ((with_reducible refine gate_callee (f := 56) rfl ?_); refine goesL_ (some 59) rfl rfl Try.func56 (by kernel_rfl) rfl #[.slice Ao52 y163.length co52] rfl ar_ ?_; (with_reducible refine (basculeref03_lay.calls kj1 _ _ y163 t166 _ ?side1 ?side2 A44.out).mono ?_); (case side1 => exact sc_ (Kd.R_reads' HO165.out).2.2); (case side2 => exact (Kd.R_reads' HO165.out).2.1); rintro e w53 ⟨v167, rfl, ho0, hb⟩; refine ⟨_, rfl, ?_⟩; have n0_ := Aside0.mk (Kd.R_elder' (kr_ HO_3) (Kd.R_base ho0) hb); have n1_ := Aside0.mk (Kd.R_below (kr_ HO165) hb); have n2_ := Aside0.mk (Kd.R_lower (Kd.R_new' ho0 (Kd.R_lt (kr_ HO_3))) (below_size (bl1_ HB GE130))); have n3_ := Aside0.mk (blk_below (g := gb130) (bk_ BK130) hb); have n4_ := Aside0.mk (below_step (bl1_ HB GE130) hb); clear HO_3; clear HO165; clear BK130; clear HB; have HO_3 := n0_; have HO165 := n1_; have HO168 := n2_; have BK130 := n3_; have HB := n4_; clear n0_ n1_ n2_ n3_ n4_; (try clear hb); (try clear hb2); (try clear hk); (try clear hi); (try clear ho0); obtain ⟨Ao55, co55, eo55⟩ := Kd.R_slice HO168.out; subst eo55) | ((with_reducible refine gate_builtin (b := .append) (xs := #[.tmp 53, .tmp 59]) rfl ?_); at_builtin; refine Kd.R_append_rows (Kd.int .u8) (w0 := w) w.heap.size rfl (.tmp 53) (.tmp 59) 58 5 (.int .u8 0) 1 rfl Try.underlying58 info5 rfl (by decide) (by omega) v132 y131 t166 _ _ _ (fun k_ => some k_ ≠ (.slice Ao55 t166.length co55 : Value).ownBlock) (fun _ => False) rfl rfl ?aO ?aR (fun _ _ h => h) (fun _ h => h.elim) ?aF ?aB ?aS ?aL ?_; (case aR => exact sc_ (Kd.R_reads' HO168.out).2.2); (case aB => exact (bl1_ HB GE130)); (case aF => exact (fun k_ hk => Kd.fresh' (Kd.R_lt (kr_ HO168)) k_ hk)); (case aO => exact (by (with_reducible repeat (first | apply Kd.R_alloc | apply Kd.R_drewN | apply Kd.R_drew)); exact Kd.R_mono HO_3.out (fun _ hk => hk.2))); (case aS => exact (below_size (bl1_ HB GE130))); (case aL => have := LMc45.out; omega); intro v170 w54 ho hb hg hat; rw [← Ny169.out] at ho; have n0_ := Aside0.mk (blk_grown (g := gb130) (bk_ BK130) hg (Kd.R_ne HO_3.out BK130.out (by decide))); have n1_ := Aside0.mk (Kd.R_over' (kr_ HO165) (Kd.R_typed (kr_ HO_3)) (by decide) hg); have n2_ := Aside0.mk (Kd.R_after (ok := (fun _ => True)) (kr_ HO168) hg hat); have n3_ := Aside0.mk (hb); have n4_ := Aside0.mk (ho); clear BK130; clear HO165; clear HO168; clear HB; clear HO_3; have BK130 := n0_; have HO165 := n1_; have HO168 := n2_; have HB := n3_; have HO171 := n4_; clear n0_ n1_ n2_ n3_ n4_; clear ho hb hg hat; refine cz7_ BK130.out ?_; intro hcz56_0 hcz56_1 hcz56_2 hcz56_3 hcz56_4 hcz56_5 hcz56_6 hfz56_0 hfz56_1 hfz56_2 hfz56_3 hfz56_4 hfz56_5 hfz56_6) | ((with_reducible refine gate_callee (f := 58) rfl ?_); refine goesL_ (some 64) rfl rfl Try.func58 (by kernel_rfl) rfl #[.slice A0_3 l0_3.length c0_3] rfl ar_ ?_; (with_reducible refine (basculeref01_Pack.calls kj1 _ _ l0_3 t172 _ ?side1 ?side2 A46.out).mono ?_); (case side1 => exact sc_ (Kd.C_below HR0_3.out HB.out)); (case side2 => exact HC0_3.out); rintro e w57 ⟨v173, rfl, ho0, hb⟩; refine ⟨_, rfl, ?_⟩; have n0_ := Aside0.mk (Kd.R_below (kr_ HO165) hb); have n1_ := Aside0.mk (Kd.R_elder' (kr_ HO168) (Kd.R_base ho0) hb); have n2_ := Aside0.mk (Kd.R_elder' (kr_ HO171) (Kd.R_base ho0) hb); have n3_ := Aside0.mk (Kd.R_lower (Kd.R_new' (Kd.R_new' ho0 (Kd.R_lt (kr_ HO168))) (Kd.R_lt (kr_ HO171))) (below_size (bl1_ HB GE130))); have n4_ := Aside0.mk (blk_below (g := gb130) (bk_ BK130) hb); have n5_ := Aside0.mk (below_step (bl1_ HB GE130) hb); clear HO165; clear HO168; clear HO171; clear BK130; clear HB; have HO165 := n0_; have HO168 := n1_; have HO171 := n2_; have HO174 := n3_; have BK130 := n4_; have HB := n5_; clear n0_ n1_ n2_ n3_ n4_ n5_; (try clear hb); (try clear hb2); (try clear hk); (try clear hi); (try clear ho0); obtain ⟨Ao58, co58, eo58⟩ := Kd.R_slice HO174.out; subst eo58) | ((with_reducible refine gate_callee (f := 57) rfl ?_); refine goesL_ (some 65) rfl rfl Try.func57 (by kernel_rfl) rfl #[.slice Ao58 t172.length co58] rfl ar_ ?_; (with_reducible refine (basculeref03_counted.calls _ _ t172 t175 _ ?side1 ?side2 A47.out).mono ?_); (case side1 => exact sc_ (Kd.R_reads' HO174.out).2.2); (case side2 => exact (Kd.R_reads' HO174.out).2.1); rintro e w59 ⟨v176, rfl, ho0, hb⟩; refine ⟨_, rfl, ?_⟩; have n0_ := Aside0.mk (Kd.R_below (kr_ HO165) hb); have n1_ := Aside0.mk (Kd.R_elder' (kr_ HO168) (Kd.R_base ho0) hb); have n2_ := Aside0.mk (Kd.R_elder' (kr_ HO171) (Kd.R_base ho0) hb); have n3_ := Aside0.mk (Kd.R_elder' (kr_ HO174) (Kd.R_base ho0) hb); have n4_ := Aside0.mk (Kd.R_lower (Kd.R_new' (Kd.R_new' (Kd.R_new' ho0 (Kd.R_lt (kr_ HO168))) (Kd.R_lt (kr_ HO171))) (Kd.R_lt (kr_ HO174))) (below_size (bl1_ HB GE130))); have n5_ := Aside0.mk (blk_below (g := gb130) (bk_ BK130) hb); have n6_ := Aside0.mk (below_step (bl1_ HB GE130) hb); clear HO165; clear HO168; clear HO171; clear HO174; clear BK130; clear HB; have HO165 := n0_; have HO168 := n1_; have HO171 := n2_; have HO174 := n3_; have HO177 := n4_; have BK130 := n5_; have HB := n6_; clear n0_ n1_ n2_ n3_ n4_ n5_ n6_; (try clear hb); (try clear hb2); (try clear hk); (try clear hi); (try clear ho0); obtain ⟨Ao61, co61, eo61⟩ := Kd.R_slice HO177.out; subst eo61) | ((with_reducible refine gate_builtin (b := .append) (xs := #[.tmp 61, .tmp 65]) rfl ?_); at_builtin; refine Kd.R_append_rows (Kd.int .u8) (w0 := w) w.heap.size rfl (.tmp 61) (.tmp 65) 58 5 (.int .u8 0) 1 rfl Try.underlying58 info5 rfl (by decide) (by omega) v170 y169 t175 _ _ _ (fun k_ => some k_ ≠ (.slice Ao55 t166.length co55 : Value).ownBlock ∧ some k_ ≠ (.slice Ao58 t172.length co58 : Value).ownBlock ∧ some k_ ≠ (.slice Ao61 t175.length co61 : Value).ownBlock) (fun _ => False) rfl rfl ?aO ?aR (fun _ _ h => h) (fun _ h => h.elim) ?aF ?aB ?aS ?aL ?_; (case aR => exact sc_ (Kd.R_reads' HO177.out).2.2); (case aB => exact (bl1_ HB GE130)); (case aF => exact (fun k_ hk => ⟨Kd.fresh' (Kd.R_lt (kr_ HO168)) k_ hk, Kd.fresh' (Kd.R_lt (kr_ HO174)) k_ hk, Kd.fresh' (Kd.R_lt (kr_ HO177)) k_ hk⟩)); (case aO => exact (by (with_reducible repeat (first | apply Kd.R_alloc | apply Kd.R_drewN | apply Kd.R_drew)); exact Kd.R_mono HO171.out (fun _ hk => ⟨hk.1.1, ⟨hk.1.2, hk.2⟩⟩))); (case aS => exact (below_size (bl1_ HB GE130))); (case aL => have := LMc48.out; omega); intro v179 w60 ho hb hg hat; rw [← Ny178.out] at ho; have n0_ := Aside0.mk (blk_grown (g := gb130) (bk_ BK130) hg (Kd.R_ne HO171.out BK130.out (by decide))); have n1_ := Aside0.mk (Kd.R_over' (kr_ HO165) (Kd.R_typed (kr_ HO171)) (by decide) hg); have n2_ := Aside0.mk (Kd.R_after (ok := (fun k_ => some k_ ≠ (.slice Ao58 t172.length co58 : Value).ownBlock ∧ some k_ ≠ (.slice Ao61 t175.length co61 : Value).ownBlock)) (by (with_reducible repeat (first | apply Kd.R_alloc | apply Kd.R_drewN | apply Kd.R_drew)); exact Kd.R_mono HO168.out (fun _ hk => ⟨⟨hk.1.2, hk.2⟩, hk.1.1.2⟩)) hg hat); have n3_ := Aside0.mk (Kd.R_after (ok := (fun k_ => some k_ ≠ (.slice Ao55 t166.length co55 : Value).ownBlock ∧ some k_ ≠ (.slice Ao61 t175.length co61 : Value).ownBlock)) (by (with_reducible repeat (first | apply Kd.R_alloc | apply Kd.R_drewN | apply Kd.R_drew)); exact Kd.R_mono HO174.out (fun _ hk => ⟨⟨hk.1.1.2, hk.2⟩, hk.1.2⟩)) hg hat); have n4_ := Aside0.mk (Kd.R_after (ok := (fun k_ => some k_ ≠ (.slice Ao55 t166.length co55 : Value).ownBlock ∧ some k_ ≠ (.slice Ao58 t172.length co58 : Value).ownBlock)) (by (with_reducible repeat (first | apply Kd.R_alloc | apply Kd.R_drewN | apply Kd.R_drew)); exact Kd.R_mono HO177.out (fun _ hk => ⟨⟨hk.1.1.2, hk.2⟩, hk.1.2⟩)) hg hat); have n5_ := Aside0.mk (hb); have n6_ := Aside0.mk (ho); clear BK130; clear HO165; clear HO168; clear HO174; clear HO177; clear HB; clear HO171; have BK130 := n0_; have HO165 := n1_; have HO168 := n2_; have HO174 := n3_; have HO177 := n4_; have HB := n5_; have HO180 := n6_; clear n0_ n1_ n2_ n3_ n4_ n5_ n6_; clear ho hb hg hat))
         go_ret
         exact ⟨_, er_, by (with_reducible repeat (first | apply Kd.R_alloc | apply Kd.R_drewN | apply Kd.R_drew)); exact Kd.R_mono HO180.out (fun _ hk => trivial), bl1_ HB GE130⟩
        ·rw [if_neg c48] at H
         exact absurd H (by simp)
       ·rw [if_neg c45] at H
        exact absurd H (by simp)
      ·rw [if_neg c43] at H
       have c43b0 : (a0_0 == 15) = false := beq_eq_false_iff_ne.mpr c43
       have c43b1 : (a0_0 != 15) = true := bne_iff_ne.mpr c43
       by_cases c62 : a0_0 = 16
       ·rw [if_pos c62] at H
        have c62b0 : (a0_0 == 16) = true := beq_iff_eq.mpr c62
        have c62b1 : (a0_0 != 16) = false := bne_eq_false_iff_eq.mpr c62
        clear c62
        obtain ⟨y181, hy181⟩ : ∃ y_ : List Int, y_ = (([a0_1, a0_2] : List Int)) := ⟨_, rfl⟩
        replace H : ((basculeref03_lay.f kj1 y181).bind fun t184 => (if y131.length + t184.length < 140737488355328 then ((some (y131 ++ t184 : List Int)).bind fun y187 => ((basculeref03_lay.f kj1 l0_3).bind fun t190 => ((basculeref03_counted.f t190).bind fun t193 => (if y187.length + t193.length < 140737488355328 then (some (y187 ++ t193)) else (none))))) else (none))) = some r := by first | (rw [hy181]; with_reducible exact H) | (have H2_ := (Option.bind_some _ _).symm.trans H; rw [hy181]; with_reducible exact H2_) | (have H2_ := (Option.bind_some _ _).symm.trans H; with_reducible exact H2_) | with_reducible exact H | (rw [hy181]; exact H) | exact H
        have Ny181 := Aside0.mk hy181
        clear hy181
        replace H := Option.bind_eq_some_iff.mp H
        obtain ⟨t184, A630, H⟩ := H
        replace H : (if y131.length + t184.length < 140737488355328 then ((some (y131 ++ t184 : List Int)).bind fun y187 => ((basculeref03_lay.f kj1 l0_3).bind fun t190 => ((basculeref03_counted.f t190).bind fun t193 => (if y187.length + t193.length < 140737488355328 then (some (y187 ++ t193)) else (none))))) else (none)) = some r := H
        have A63 := Aside0.mk A630
        clear A630
        by_cases c64 : y131.length + t184.length < 140737488355328
        ·rw [if_pos c64] at H
         have LMc64 := Aside0.mk c64
         clear c64
         obtain ⟨y187, hy187⟩ : ∃ y_ : List Int, y_ = (y131 ++ t184) := ⟨_, rfl⟩
         replace H : ((basculeref03_lay.f kj1 l0_3).bind fun t190 => ((basculeref03_counted.f t190).bind fun t193 => (if y187.length + t193.length < 140737488355328 then (some (y187 ++ t193)) else (none)))) = some r := by first | (rw [hy187]; with_reducible exact H) | (have H2_ := (Option.bind_some _ _).symm.trans H; rw [hy187]; with_reducible exact H2_) | (have H2_ := (Option.bind_some _ _).symm.trans H; with_reducible exact H2_) | with_reducible exact H | (rw [hy187]; exact H) | exact H
         have Ny187 := Aside0.mk hy187
         clear hy187
         replace H := Option.bind_eq_some_iff.mp H
         obtain ⟨t190, A650, H⟩ := H
         replace H : ((basculeref03_counted.f t190).bind fun t193 => (if y187.length + t193.length < 140737488355328 then (some (y187 ++ t193)) else (none))) = some r := H
         have A65 := Aside0.mk A650
         clear A650
         replace H := Option.bind_eq_some_iff.mp H
         obtain ⟨t193, A660, H⟩ := H
         replace H : (if y187.length + t193.length < 140737488355328 then (some (y187 ++ t193)) else (none)) = some r := H
         have A66 := Aside0.mk A660
         clear A660
         by_cases c67 : y187.length + t193.length < 140737488355328
         ·rw [if_pos c67] at H
          have LMc67 := Aside0.mk c67
          clear c67
          obtain ⟨y196, hy196⟩ : ∃ y_ : List Int, y_ = (y187 ++ t193) := ⟨_, rfl⟩
          replace H : (some y196) = some r := by first | (rw [hy196]; with_reducible exact H) | (have H2_ := (Option.bind_some _ _).symm.trans H; rw [hy196]; with_reducible exact H2_) | (have H2_ := (Option.bind_some _ _).symm.trans H; with_reducible exact H2_) | with_reducible exact H | (rw [hy196]; exact H) | exact H
          have Ny196 := Aside0.mk hy196
          clear hy196
          obtain rfl := Option.some.inj H
          refine cz7_ BK130.out ?_; intro hcz68_0 hcz68_1 hcz68_2 hcz68_3 hcz68_4 hcz68_5 hcz68_6 hfz68_0 hfz68_1 hfz68_2 hfz68_3 hfz68_4 hfz68_5 hfz68_6
          go_wp2_with (first | ((with_reducible refine gate_dst (N := 75) rfl ?_); refine Kd.R_lit (Kd.int .i64) _ 3 ?hg (N := 75) ?hd (xs := ([a0_1, a0_2] : List Int)) (inner := [.int .i64 a0_1, .int .i64 a0_2]) (ok := fun _ => True) (okp := fun _ => True) ?hr ?hp (fun _ hk => hk) trivial (Below.refl _ _) (Nat.le_refl _) (by simp) ?_; (case hd => rfl); (case hg => rfl); (case hr => first | (go_simp; done) | (go_simp; rfl)); (case hp => exact (Reps.one (show Kd.M (Kd.int .i64) _ _ _ a0_1 [.int .i64 a0_1] from rfl) (Reps.one (show Kd.M (Kd.int .i64) _ _ _ a0_2 [.int .i64 a0_2] from rfl) (Reps.none _ _)))); intro v182 w69 ho70 hb hg_ hnew_; clear hg_ hnew_; (first | rw [← Ny181.out] at ho70 | (simp only [Int.reduceToNat] at ho70; rw [← Ny181.out] at ho70)); have n0_ := Aside0.mk (Kd.R_below (kr_ HO_3) hb); have n1_ := Aside0.mk (Kd.R_lower ho70 (below_size (bl1_ HB GE130))); have n2_ := Aside0.mk (blk_below (g := gb130) (bk_ BK130) hb); have n3_ := Aside0.mk (below_step (bl1_ HB GE130) hb); clear HO_3; clear BK130; clear HB; have HO_3 := n0_; have HO183 := n1_; have BK130 := n2_; have HB := n3_; clear n0_ n1_ n2_ n3_; clear hb ho70; obtain ⟨Ao71, co71, eo71⟩ := Kd.R_slice HO183.out; subst eo71) | ((with_reducible refine gate_callee (f := 56) rfl ?_); refine goesL_ (some 76) rfl rfl Try.func56 (by kernel_rfl) rfl #[.slice Ao71 y181.length co71] rfl ar_ ?_; (with_reducible refine (basculeref03_lay.calls kj1 _ _ y181 t184 _ ?side1 ?side2 A63.out).mono ?_); (case side1 => exact sc_ (Kd.R_reads' HO183.out).2.2); (case side2 => exact (Kd.R_reads' HO183.out).2.1); rintro e w72 ⟨v185, rfl, ho0, hb⟩; refine ⟨_, rfl, ?_⟩; have n0_ := Aside0.mk (Kd.R_elder' (kr_ HO_3) (Kd.R_base ho0) hb); have n1_ := Aside0.mk (Kd.R_below (kr_ HO183) hb); have n2_ := Aside0.mk (Kd.R_lower (Kd.R_new' ho0 (Kd.R_lt (kr_ HO_3))) (below_size (bl1_ HB GE130))); have n3_ := Aside0.mk (blk_below (g := gb130) (bk_ BK130) hb); have n4_ := Aside0.mk (below_step (bl1_ HB GE130) hb); clear HO_3; clear HO183; clear BK130; clear HB; have HO_3 := n0_; have HO183 := n1_; have HO186 := n2_; have BK130 := n3_; have HB := n4_; clear n0_ n1_ n2_ n3_ n4_; (try clear hb); (try clear hb2); (try clear hk); (try clear hi); (try clear ho0); obtain ⟨Ao74, co74, eo74⟩ := Kd.R_slice HO186.out; subst eo74) | ((with_reducible refine gate_builtin (b := .append) (xs := #[.tmp 70, .tmp 76]) rfl ?_); at_builtin; refine Kd.R_append_rows (Kd.int .u8) (w0 := w) w.heap.size rfl (.tmp 70) (.tmp 76) 58 5 (.int .u8 0) 1 rfl Try.underlying58 info5 rfl (by decide) (by omega) v132 y131 t184 _ _ _ (fun k_ => some k_ ≠ (.slice Ao74 t184.length co74 : Value).ownBlock) (fun _ => False) rfl rfl ?aO ?aR (fun _ _ h => h) (fun _ h => h.elim) ?aF ?aB ?aS ?aL ?_; (case aR => exact sc_ (Kd.R_reads' HO186.out).2.2); (case aB => exact (bl1_ HB GE130)); (case aF => exact (fun k_ hk => Kd.fresh' (Kd.R_lt (kr_ HO186)) k_ hk)); (case aO => exact (by (with_reducible repeat (first | apply Kd.R_alloc | apply Kd.R_drewN | apply Kd.R_drew)); exact Kd.R_mono HO_3.out (fun _ hk => hk.2))); (case aS => exact (below_size (bl1_ HB GE130))); (case aL => have := LMc64.out; omega); intro v188 w73 ho hb hg hat; rw [← Ny187.out] at ho; have n0_ := Aside0.mk (blk_grown (g := gb130) (bk_ BK130) hg (Kd.R_ne HO_3.out BK130.out (by decide))); have n1_ := Aside0.mk (Kd.R_over' (kr_ HO183) (Kd.R_typed (kr_ HO_3)) (by decide) hg); have n2_ := Aside0.mk (Kd.R_after (ok := (fun _ => True)) (kr_ HO186) hg hat); have n3_ := Aside0.mk (hb); have n4_ := Aside0.mk (ho); clear BK130; clear HO183; clear HO186; clear HB; clear HO_3; have BK130 := n0_; have HO183 := n1_; have HO186 := n2_; have HB := n3_; have HO189 := n4_; clear n0_ n1_ n2_ n3_ n4_; clear ho hb hg hat; refine cz7_ BK130.out ?_; intro hcz75_0 hcz75_1 hcz75_2 hcz75_3 hcz75_4 hcz75_5 hcz75_6 hfz75_0 hfz75_1 hfz75_2 hfz75_3 hfz75_4 hfz75_5 hfz75_6) | ((with_reducible refine gate_callee (f := 56) rfl ?_); refine goesL_ (some 81) rfl rfl Try.func56 (by kernel_rfl) rfl #[.slice A0_3 l0_3.length c0_3] rfl ar_ ?_; (with_reducible refine (basculeref03_lay.calls kj1 _ _ l0_3 t190 _ ?side1 ?side2 A65.out).mono ?_); (case side1 => exact sc_ (Kd.C_below HR0_3.out HB.out)); (case side2 => exact HC0_3.out); rintro e w76 ⟨v191, rfl, ho0, hb⟩; refine ⟨_, rfl, ?_⟩; have n0_ := Aside0.mk (Kd.R_below (kr_ HO183) hb); have n1_ := Aside0.mk (Kd.R_elder' (kr_ HO186) (Kd.R_base ho0) hb); have n2_ := Aside0.mk (Kd.R_elder' (kr_ HO189) (Kd.R_base ho0) hb); have n3_ := Aside0.mk (Kd.R_lower (Kd.R_new' (Kd.R_new' ho0 (Kd.R_lt (kr_ HO186))) (Kd.R_lt (kr_ HO189))) (below_size (bl1_ HB GE130))); have n4_ := Aside0.mk (blk_below (g := gb130) (bk_ BK130) hb); have n5_ := Aside0.mk (below_step (bl1_ HB GE130) hb); clear HO183; clear HO186; clear HO189; clear BK130; clear HB; have HO183 := n0_; have HO186 := n1_; have HO189 := n2_; have HO192 := n3_; have BK130 := n4_; have HB := n5_; clear n0_ n1_ n2_ n3_ n4_ n5_; (try clear hb); (try clear hb2); (try clear hk); (try clear hi); (try clear ho0); obtain ⟨Ao77, co77, eo77⟩ := Kd.R_slice HO192.out; subst eo77) | ((with_reducible refine gate_callee (f := 57) rfl ?_); refine goesL_ (some 82) rfl rfl Try.func57 (by kernel_rfl) rfl #[.slice Ao77 t190.length co77] rfl ar_ ?_; (with_reducible refine (basculeref03_counted.calls _ _ t190 t193 _ ?side1 ?side2 A66.out).mono ?_); (case side1 => exact sc_ (Kd.R_reads' HO192.out).2.2); (case side2 => exact (Kd.R_reads' HO192.out).2.1); rintro e w78 ⟨v194, rfl, ho0, hb⟩; refine ⟨_, rfl, ?_⟩; have n0_ := Aside0.mk (Kd.R_below (kr_ HO183) hb); have n1_ := Aside0.mk (Kd.R_elder' (kr_ HO186) (Kd.R_base ho0) hb); have n2_ := Aside0.mk (Kd.R_elder' (kr_ HO189) (Kd.R_base ho0) hb); have n3_ := Aside0.mk (Kd.R_elder' (kr_ HO192) (Kd.R_base ho0) hb); have n4_ := Aside0.mk (Kd.R_lower (Kd.R_new' (Kd.R_new' (Kd.R_new' ho0 (Kd.R_lt (kr_ HO186))) (Kd.R_lt (kr_ HO189))) (Kd.R_lt (kr_ HO192))) (below_size (bl1_ HB GE130))); have n5_ := Aside0.mk (blk_below (g := gb130) (bk_ BK130) hb); have n6_ := Aside0.mk (below_step (bl1_ HB GE130) hb); clear HO183; clear HO186; clear HO189; clear HO192; clear BK130; clear HB; have HO183 := n0_; have HO186 := n1_; have HO189 := n2_; have HO192 := n3_; have HO195 := n4_; have BK130 := n5_; have HB := n6_; clear n0_ n1_ n2_ n3_ n4_ n5_ n6_; (try clear hb); (try clear hb2); (try clear hk); (try clear hi); (try clear ho0); obtain ⟨Ao80, co80, eo80⟩ := Kd.R_slice HO195.out; subst eo80) | ((with_reducible refine gate_builtin (b := .append) (xs := #[.tmp 78, .tmp 82]) rfl ?_); at_builtin; refine Kd.R_append_rows (Kd.int .u8) (w0 := w) w.heap.size rfl (.tmp 78) (.tmp 82) 58 5 (.int .u8 0) 1 rfl Try.underlying58 info5 rfl (by decide) (by omega) v188 y187 t193 _ _ _ (fun k_ => some k_ ≠ (.slice Ao74 t184.length co74 : Value).ownBlock ∧ some k_ ≠ (.slice Ao77 t190.length co77 : Value).ownBlock ∧ some k_ ≠ (.slice Ao80 t193.length co80 : Value).ownBlock) (fun _ => False) rfl rfl ?aO ?aR (fun _ _ h => h) (fun _ h => h.elim) ?aF ?aB ?aS ?aL ?_; (case aR => exact sc_ (Kd.R_reads' HO195.out).2.2); (case aB => exact (bl1_ HB GE130)); (case aF => exact (fun k_ hk => ⟨Kd.fresh' (Kd.R_lt (kr_ HO186)) k_ hk, Kd.fresh' (Kd.R_lt (kr_ HO192)) k_ hk, Kd.fresh' (Kd.R_lt (kr_ HO195)) k_ hk⟩)); (case aO => exact (by (with_reducible repeat (first | apply Kd.R_alloc | apply Kd.R_drewN | apply Kd.R_drew)); exact Kd.R_mono HO189.out (fun _ hk => ⟨hk.1.1, ⟨hk.1.2, hk.2⟩⟩))); (case aS => exact (below_size (bl1_ HB GE130))); (case aL => have := LMc67.out; omega); intro v197 w79 ho hb hg hat; rw [← Ny196.out] at ho; have n0_ := Aside0.mk (blk_grown (g := gb130) (bk_ BK130) hg (Kd.R_ne HO189.out BK130.out (by decide))); have n1_ := Aside0.mk (Kd.R_over' (kr_ HO183) (Kd.R_typed (kr_ HO189)) (by decide) hg); have n2_ := Aside0.mk (Kd.R_after (ok := (fun k_ => some k_ ≠ (.slice Ao77 t190.length co77 : Value).ownBlock ∧ some k_ ≠ (.slice Ao80 t193.length co80 : Value).ownBlock)) (by (with_reducible repeat (first | apply Kd.R_alloc | apply Kd.R_drewN | apply Kd.R_drew)); exact Kd.R_mono HO186.out (fun _ hk => ⟨⟨hk.1.2, hk.2⟩, hk.1.1.2⟩)) hg hat); have n3_ := Aside0.mk (Kd.R_after (ok := (fun k_ => some k_ ≠ (.slice Ao74 t184.length co74 : Value).ownBlock ∧ some k_ ≠ (.slice Ao80 t193.length co80 : Value).ownBlock)) (by (with_reducible repeat (first | apply Kd.R_alloc | apply Kd.R_drewN | apply Kd.R_drew)); exact Kd.R_mono HO192.out (fun _ hk => ⟨⟨hk.1.1.2, hk.2⟩, hk.1.2⟩)) hg hat); have n4_ := Aside0.mk (Kd.R_after (ok := (fun k_ => some k_ ≠ (.slice Ao74 t184.length co74 : Value).ownBlock ∧ some k_ ≠ (.slice Ao77 t190.length co77 : Value).ownBlock)) (by (with_reducible repeat (first | apply Kd.R_alloc | apply Kd.R_drewN | apply Kd.R_drew)); exact Kd.R_mono HO195.out (fun _ hk => ⟨⟨hk.1.1.2, hk.2⟩, hk.1.2⟩)) hg hat); have n5_ := Aside0.mk (hb); have n6_ := Aside0.mk (ho); clear BK130; clear HO183; clear HO186; clear HO192; clear HO195; clear HB; clear HO189; have BK130 := n0_; have HO183 := n1_; have HO186 := n2_; have HO192 := n3_; have HO195 := n4_; have HB := n5_; have HO198 := n6_; clear n0_ n1_ n2_ n3_ n4_ n5_ n6_; clear ho hb hg hat))
          go_ret
          exact ⟨_, er_, by (with_reducible repeat (first | apply Kd.R_alloc | apply Kd.R_drewN | apply Kd.R_drew)); exact Kd.R_mono HO198.out (fun _ hk => trivial), bl1_ HB GE130⟩
         ·rw [if_neg c67] at H
          exact absurd H (by simp)
        ·rw [if_neg c64] at H
         exact absurd H (by simp)
       ·rw [if_neg c62] at H
        have c62b0 : (a0_0 == 16) = false := beq_eq_false_iff_ne.mpr c62
        have c62b1 : (a0_0 != 16) = true := bne_iff_ne.mpr c62
        by_cases c81 : a0_0 = 22
        ·rw [if_pos c81] at H
         have c81b0 : (a0_0 == 22) = true := beq_iff_eq.mpr c81
         have c81b1 : (a0_0 != 22) = false := bne_eq_false_iff_eq.mpr c81
         clear c81
         obtain ⟨y199, hy199⟩ : ∃ y_ : List Int, y_ = (([a0_1, a0_5, a0_6] : List Int)) := ⟨_, rfl⟩
         replace H : ((basculeref03_lay.f kj1 y199).bind fun t202 => (if y131.length + t202.length < 140737488355328 then (some (y131 ++ t202)) else (none))) = some r := by first | (rw [hy199]; with_reducible exact H) | (have H2_ := (Option.bind_some _ _).symm.trans H; rw [hy199]; with_reducible exact H2_) | (have H2_ := (Option.bind_some _ _).symm.trans H; with_reducible exact H2_) | with_reducible exact H | (rw [hy199]; exact H) | exact H
         have Ny199 := Aside0.mk hy199
         clear hy199
         replace H := Option.bind_eq_some_iff.mp H
         obtain ⟨t202, A820, H⟩ := H
         replace H : (if y131.length + t202.length < 140737488355328 then (some (y131 ++ t202)) else (none)) = some r := H
         have A82 := Aside0.mk A820
         clear A820
         by_cases c83 : y131.length + t202.length < 140737488355328
         ·rw [if_pos c83] at H
          have LMc83 := Aside0.mk c83
          clear c83
          obtain ⟨y205, hy205⟩ : ∃ y_ : List Int, y_ = (y131 ++ t202) := ⟨_, rfl⟩
          replace H : (some y205) = some r := by first | (rw [hy205]; with_reducible exact H) | (have H2_ := (Option.bind_some _ _).symm.trans H; rw [hy205]; with_reducible exact H2_) | (have H2_ := (Option.bind_some _ _).symm.trans H; with_reducible exact H2_) | with_reducible exact H | (rw [hy205]; exact H) | exact H
          have Ny205 := Aside0.mk hy205
          clear hy205
          obtain rfl := Option.some.inj H
          refine cz7_ BK130.out ?_; intro hcz84_0 hcz84_1 hcz84_2 hcz84_3 hcz84_4 hcz84_5 hcz84_6 hfz84_0 hfz84_1 hfz84_2 hfz84_3 hfz84_4 hfz84_5 hfz84_6
          go_wp2_with (first | ((with_reducible refine gate_dst (N := 94) rfl ?_); refine Kd.R_lit (Kd.int .i64) _ 3 ?hg (N := 94) ?hd (xs := ([a0_1, a0_5, a0_6] : List Int)) (inner := [.int .i64 a0_1, .int .i64 a0_5, .int .i64 a0_6]) (ok := fun _ => True) (okp := fun _ => True) ?hr ?hp (fun _ hk => hk) trivial (Below.refl _ _) (Nat.le_refl _) (by simp) ?_; (case hd => rfl); (case hg => rfl); (case hr => first | (go_simp; done) | (go_simp; rfl)); (case hp => exact (Reps.one (show Kd.M (Kd.int .i64) _ _ _ a0_1 [.int .i64 a0_1] from rfl) (Reps.one (show Kd.M (Kd.int .i64) _ _ _ a0_5 [.int .i64 a0_5] from rfl) (Reps.one (show Kd.M (Kd.int .i64) _ _ _ a0_6 [.int .i64 a0_6] from rfl) (Reps.none _ _))))); intro v200 w85 ho86 hb hg_ hnew_; clear hg_ hnew_; (first | rw [← Ny199.out] at ho86 | (simp only [Int.reduceToNat] at ho86; rw [← Ny199.out] at ho86)); have n0_ := Aside0.mk (Kd.R_below (kr_ HO_3) hb); have n1_ := Aside0.mk (Kd.R_lower ho86 (below_size (bl1_ HB GE130))); have n2_ := Aside0.mk (blk_below (g := gb130) (bk_ BK130) hb); have n3_ := Aside0.mk (below_step (bl1_ HB GE130) hb); clear HO_3; clear BK130; clear HB; have HO_3 := n0_; have HO201 := n1_; have BK130 := n2_; have HB := n3_; clear n0_ n1_ n2_ n3_; clear hb ho86; obtain ⟨Ao87, co87, eo87⟩ := Kd.R_slice HO201.out; subst eo87) | ((with_reducible refine gate_callee (f := 56) rfl ?_); refine goesL_ (some 95) rfl rfl Try.func56 (by kernel_rfl) rfl #[.slice Ao87 y199.length co87] rfl ar_ ?_; (with_reducible refine (basculeref03_lay.calls kj1 _ _ y199 t202 _ ?side1 ?side2 A82.out).mono ?_); (case side1 => exact sc_ (Kd.R_reads' HO201.out).2.2); (case side2 => exact (Kd.R_reads' HO201.out).2.1); rintro e w88 ⟨v203, rfl, ho0, hb⟩; refine ⟨_, rfl, ?_⟩; have n0_ := Aside0.mk (Kd.R_elder' (kr_ HO_3) (Kd.R_base ho0) hb); have n1_ := Aside0.mk (Kd.R_below (kr_ HO201) hb); have n2_ := Aside0.mk (Kd.R_lower (Kd.R_new' ho0 (Kd.R_lt (kr_ HO_3))) (below_size (bl1_ HB GE130))); have n3_ := Aside0.mk (blk_below (g := gb130) (bk_ BK130) hb); have n4_ := Aside0.mk (below_step (bl1_ HB GE130) hb); clear HO_3; clear HO201; clear BK130; clear HB; have HO_3 := n0_; have HO201 := n1_; have HO204 := n2_; have BK130 := n3_; have HB := n4_; clear n0_ n1_ n2_ n3_ n4_; (try clear hb); (try clear hb2); (try clear hk); (try clear hi); (try clear ho0); obtain ⟨Ao90, co90, eo90⟩ := Kd.R_slice HO204.out; subst eo90) | ((with_reducible refine gate_builtin (b := .append) (xs := #[.tmp 87, .tmp 95]) rfl ?_); at_builtin; refine Kd.R_append_rows (Kd.int .u8) (w0 := w) w.heap.size rfl (.tmp 87) (.tmp 95) 58 5 (.int .u8 0) 1 rfl Try.underlying58 info5 rfl (by decide) (by omega) v132 y131 t202 _ _ _ (fun k_ => some k_ ≠ (.slice Ao90 t202.length co90 : Value).ownBlock) (fun _ => False) rfl rfl ?aO ?aR (fun _ _ h => h) (fun _ h => h.elim) ?aF ?aB ?aS ?aL ?_; (case aR => exact sc_ (Kd.R_reads' HO204.out).2.2); (case aB => exact (bl1_ HB GE130)); (case aF => exact (fun k_ hk => Kd.fresh' (Kd.R_lt (kr_ HO204)) k_ hk)); (case aO => exact (by (with_reducible repeat (first | apply Kd.R_alloc | apply Kd.R_drewN | apply Kd.R_drew)); exact Kd.R_mono HO_3.out (fun _ hk => hk.2))); (case aS => exact (below_size (bl1_ HB GE130))); (case aL => have := LMc83.out; omega); intro v206 w89 ho hb hg hat; rw [← Ny205.out] at ho; have n0_ := Aside0.mk (blk_grown (g := gb130) (bk_ BK130) hg (Kd.R_ne HO_3.out BK130.out (by decide))); have n1_ := Aside0.mk (Kd.R_over' (kr_ HO201) (Kd.R_typed (kr_ HO_3)) (by decide) hg); have n2_ := Aside0.mk (Kd.R_after (ok := (fun _ => True)) (kr_ HO204) hg hat); have n3_ := Aside0.mk (hb); have n4_ := Aside0.mk (ho); clear BK130; clear HO201; clear HO204; clear HB; clear HO_3; have BK130 := n0_; have HO201 := n1_; have HO204 := n2_; have HB := n3_; have HO207 := n4_; clear n0_ n1_ n2_ n3_ n4_; clear ho hb hg hat))
          go_ret
          exact ⟨_, er_, by (with_reducible repeat (first | apply Kd.R_alloc | apply Kd.R_drewN | apply Kd.R_drew)); exact Kd.R_mono HO207.out (fun _ hk => trivial), bl1_ HB GE130⟩
         ·rw [if_neg c83] at H
          exact absurd H (by simp)
        ·rw [if_neg c81] at H
         have c81b0 : (a0_0 == 22) = false := beq_eq_false_iff_ne.mpr c81
         have c81b1 : (a0_0 != 22) = true := bne_iff_ne.mpr c81
         obtain ⟨y208, hy208⟩ : ∃ y_ : List Int, y_ = (([a0_1, a0_2, a0_4, (l0_3.length : Int)] : List Int)) := ⟨_, rfl⟩
         replace H : ((basculeref03_lay.f kj1 y208).bind fun t211 => (if y131.length + t211.length < 140737488355328 then ((some (y131 ++ t211 : List Int)).bind fun y214 => ((basculeref03_lay.f kj1 l0_3).bind fun t217 => ((basculeref03_counted.f t217).bind fun t220 => (if y214.length + t220.length < 140737488355328 then (some (y214 ++ t220)) else (none))))) else (none))) = some r := by first | (rw [hy208]; with_reducible exact H) | (have H2_ := (Option.bind_some _ _).symm.trans H; rw [hy208]; with_reducible exact H2_) | (have H2_ := (Option.bind_some _ _).symm.trans H; with_reducible exact H2_) | with_reducible exact H | (rw [hy208]; exact H) | exact H
         have Ny208 := Aside0.mk hy208
         clear hy208
         replace H := Option.bind_eq_some_iff.mp H
         obtain ⟨t211, A910, H⟩ := H
         replace H : (if y131.length + t211.length < 140737488355328 then ((some (y131 ++ t211 : List Int)).bind fun y214 => ((basculeref03_lay.f kj1 l0_3).bind fun t217 => ((basculeref03_counted.f t217).bind fun t220 => (if y214.length + t220.length < 140737488355328 then (some (y214 ++ t220)) else (none))))) else (none)) = some r := H
         have A91 := Aside0.mk A910
         clear A910
         by_cases c92 : y131.length + t211.length < 140737488355328
         ·rw [if_pos c92] at H
          have LMc92 := Aside0.mk c92
          clear c92
          obtain ⟨y214, hy214⟩ : ∃ y_ : List Int, y_ = (y131 ++ t211) := ⟨_, rfl⟩
          replace H : ((basculeref03_lay.f kj1 l0_3).bind fun t217 => ((basculeref03_counted.f t217).bind fun t220 => (if y214.length + t220.length < 140737488355328 then (some (y214 ++ t220)) else (none)))) = some r := by first | (rw [hy214]; with_reducible exact H) | (have H2_ := (Option.bind_some _ _).symm.trans H; rw [hy214]; with_reducible exact H2_) | (have H2_ := (Option.bind_some _ _).symm.trans H; with_reducible exact H2_) | with_reducible exact H | (rw [hy214]; exact H) | exact H
          have Ny214 := Aside0.mk hy214
          clear hy214
          replace H := Option.bind_eq_some_iff.mp H
          obtain ⟨t217, A930, H⟩ := H
          replace H : ((basculeref03_counted.f t217).bind fun t220 => (if y214.length + t220.length < 140737488355328 then (some (y214 ++ t220)) else (none))) = some r := H
          have A93 := Aside0.mk A930
          clear A930
          replace H := Option.bind_eq_some_iff.mp H
          obtain ⟨t220, A940, H⟩ := H
          replace H : (if y214.length + t220.length < 140737488355328 then (some (y214 ++ t220)) else (none)) = some r := H
          have A94 := Aside0.mk A940
          clear A940
          by_cases c95 : y214.length + t220.length < 140737488355328
          ·rw [if_pos c95] at H
           have LMc95 := Aside0.mk c95
           clear c95
           obtain ⟨y223, hy223⟩ : ∃ y_ : List Int, y_ = (y214 ++ t220) := ⟨_, rfl⟩
           replace H : (some y223) = some r := by first | (rw [hy223]; with_reducible exact H) | (have H2_ := (Option.bind_some _ _).symm.trans H; rw [hy223]; with_reducible exact H2_) | (have H2_ := (Option.bind_some _ _).symm.trans H; with_reducible exact H2_) | with_reducible exact H | (rw [hy223]; exact H) | exact H
           have Ny223 := Aside0.mk hy223
           clear hy223
           obtain rfl := Option.some.inj H
           refine cz7_ BK130.out ?_; intro hcz96_0 hcz96_1 hcz96_2 hcz96_3 hcz96_4 hcz96_5 hcz96_6 hfz96_0 hfz96_1 hfz96_2 hfz96_3 hfz96_4 hfz96_5 hfz96_6
           go_wp2_with (first | ((with_reducible refine gate_dst (N := 108) rfl ?_); refine Kd.R_lit (Kd.int .i64) _ 3 ?hg (N := 108) ?hd (xs := ([a0_1, a0_2, a0_4, (l0_3.length : Int)] : List Int)) (inner := [.int .i64 a0_1, .int .i64 a0_2, .int .i64 a0_4, .int .i64 (l0_3.length : Int)]) (ok := fun _ => True) (okp := fun _ => True) ?hr ?hp (fun _ hk => hk) trivial (Below.refl _ _) (Nat.le_refl _) (by simp) ?_; (case hd => rfl); (case hg => rfl); (case hr => first | (go_simp; done) | (go_simp; rfl)); (case hp => exact (Reps.one (show Kd.M (Kd.int .i64) _ _ _ a0_1 [.int .i64 a0_1] from rfl) (Reps.one (show Kd.M (Kd.int .i64) _ _ _ a0_2 [.int .i64 a0_2] from rfl) (Reps.one (show Kd.M (Kd.int .i64) _ _ _ a0_4 [.int .i64 a0_4] from rfl) (Reps.one (show Kd.M (Kd.int .i64) _ _ _ (l0_3.length : Int) [.int .i64 (l0_3.length : Int)] from rfl) (Reps.none _ _)))))); intro v209 w97 ho98 hb hg_ hnew_; clear hg_ hnew_; (first | rw [← Ny208.out] at ho98 | (simp only [Int.reduceToNat] at ho98; rw [← Ny208.out] at ho98)); have n0_ := Aside0.mk (Kd.R_below (kr_ HO_3) hb); have n1_ := Aside0.mk (Kd.R_lower ho98 (below_size (bl1_ HB GE130))); have n2_ := Aside0.mk (blk_below (g := gb130) (bk_ BK130) hb); have n3_ := Aside0.mk (below_step (bl1_ HB GE130) hb); clear HO_3; clear BK130; clear HB; have HO_3 := n0_; have HO210 := n1_; have BK130 := n2_; have HB := n3_; clear n0_ n1_ n2_ n3_; clear hb ho98; obtain ⟨Ao99, co99, eo99⟩ := Kd.R_slice HO210.out; subst eo99) | ((with_reducible refine gate_callee (f := 56) rfl ?_); refine goesL_ (some 109) rfl rfl Try.func56 (by kernel_rfl) rfl #[.slice Ao99 y208.length co99] rfl ar_ ?_; (with_reducible refine (basculeref03_lay.calls kj1 _ _ y208 t211 _ ?side1 ?side2 A91.out).mono ?_); (case side1 => exact sc_ (Kd.R_reads' HO210.out).2.2); (case side2 => exact (Kd.R_reads' HO210.out).2.1); rintro e w100 ⟨v212, rfl, ho0, hb⟩; refine ⟨_, rfl, ?_⟩; have n0_ := Aside0.mk (Kd.R_elder' (kr_ HO_3) (Kd.R_base ho0) hb); have n1_ := Aside0.mk (Kd.R_below (kr_ HO210) hb); have n2_ := Aside0.mk (Kd.R_lower (Kd.R_new' ho0 (Kd.R_lt (kr_ HO_3))) (below_size (bl1_ HB GE130))); have n3_ := Aside0.mk (blk_below (g := gb130) (bk_ BK130) hb); have n4_ := Aside0.mk (below_step (bl1_ HB GE130) hb); clear HO_3; clear HO210; clear BK130; clear HB; have HO_3 := n0_; have HO210 := n1_; have HO213 := n2_; have BK130 := n3_; have HB := n4_; clear n0_ n1_ n2_ n3_ n4_; (try clear hb); (try clear hb2); (try clear hk); (try clear hi); (try clear ho0); obtain ⟨Ao102, co102, eo102⟩ := Kd.R_slice HO213.out; subst eo102) | ((with_reducible refine gate_builtin (b := .append) (xs := #[.tmp 98, .tmp 109]) rfl ?_); at_builtin; refine Kd.R_append_rows (Kd.int .u8) (w0 := w) w.heap.size rfl (.tmp 98) (.tmp 109) 58 5 (.int .u8 0) 1 rfl Try.underlying58 info5 rfl (by decide) (by omega) v132 y131 t211 _ _ _ (fun k_ => some k_ ≠ (.slice Ao102 t211.length co102 : Value).ownBlock) (fun _ => False) rfl rfl ?aO ?aR (fun _ _ h => h) (fun _ h => h.elim) ?aF ?aB ?aS ?aL ?_; (case aR => exact sc_ (Kd.R_reads' HO213.out).2.2); (case aB => exact (bl1_ HB GE130)); (case aF => exact (fun k_ hk => Kd.fresh' (Kd.R_lt (kr_ HO213)) k_ hk)); (case aO => exact (by (with_reducible repeat (first | apply Kd.R_alloc | apply Kd.R_drewN | apply Kd.R_drew)); exact Kd.R_mono HO_3.out (fun _ hk => hk.2))); (case aS => exact (below_size (bl1_ HB GE130))); (case aL => have := LMc92.out; omega); intro v215 w101 ho hb hg hat; rw [← Ny214.out] at ho; have n0_ := Aside0.mk (blk_grown (g := gb130) (bk_ BK130) hg (Kd.R_ne HO_3.out BK130.out (by decide))); have n1_ := Aside0.mk (Kd.R_over' (kr_ HO210) (Kd.R_typed (kr_ HO_3)) (by decide) hg); have n2_ := Aside0.mk (Kd.R_after (ok := (fun _ => True)) (kr_ HO213) hg hat); have n3_ := Aside0.mk (hb); have n4_ := Aside0.mk (ho); clear BK130; clear HO210; clear HO213; clear HB; clear HO_3; have BK130 := n0_; have HO210 := n1_; have HO213 := n2_; have HB := n3_; have HO216 := n4_; clear n0_ n1_ n2_ n3_ n4_; clear ho hb hg hat; refine cz7_ BK130.out ?_; intro hcz103_0 hcz103_1 hcz103_2 hcz103_3 hcz103_4 hcz103_5 hcz103_6 hfz103_0 hfz103_1 hfz103_2 hfz103_3 hfz103_4 hfz103_5 hfz103_6) | ((with_reducible refine gate_callee (f := 56) rfl ?_); refine goesL_ (some 114) rfl rfl Try.func56 (by kernel_rfl) rfl #[.slice A0_3 l0_3.length c0_3] rfl ar_ ?_; (with_reducible refine (basculeref03_lay.calls kj1 _ _ l0_3 t217 _ ?side1 ?side2 A93.out).mono ?_); (case side1 => exact sc_ (Kd.C_below HR0_3.out HB.out)); (case side2 => exact HC0_3.out); rintro e w104 ⟨v218, rfl, ho0, hb⟩; refine ⟨_, rfl, ?_⟩; have n0_ := Aside0.mk (Kd.R_below (kr_ HO210) hb); have n1_ := Aside0.mk (Kd.R_elder' (kr_ HO213) (Kd.R_base ho0) hb); have n2_ := Aside0.mk (Kd.R_elder' (kr_ HO216) (Kd.R_base ho0) hb); have n3_ := Aside0.mk (Kd.R_lower (Kd.R_new' (Kd.R_new' ho0 (Kd.R_lt (kr_ HO213))) (Kd.R_lt (kr_ HO216))) (below_size (bl1_ HB GE130))); have n4_ := Aside0.mk (blk_below (g := gb130) (bk_ BK130) hb); have n5_ := Aside0.mk (below_step (bl1_ HB GE130) hb); clear HO210; clear HO213; clear HO216; clear BK130; clear HB; have HO210 := n0_; have HO213 := n1_; have HO216 := n2_; have HO219 := n3_; have BK130 := n4_; have HB := n5_; clear n0_ n1_ n2_ n3_ n4_ n5_; (try clear hb); (try clear hb2); (try clear hk); (try clear hi); (try clear ho0); obtain ⟨Ao105, co105, eo105⟩ := Kd.R_slice HO219.out; subst eo105) | ((with_reducible refine gate_callee (f := 57) rfl ?_); refine goesL_ (some 115) rfl rfl Try.func57 (by kernel_rfl) rfl #[.slice Ao105 t217.length co105] rfl ar_ ?_; (with_reducible refine (basculeref03_counted.calls _ _ t217 t220 _ ?side1 ?side2 A94.out).mono ?_); (case side1 => exact sc_ (Kd.R_reads' HO219.out).2.2); (case side2 => exact (Kd.R_reads' HO219.out).2.1); rintro e w106 ⟨v221, rfl, ho0, hb⟩; refine ⟨_, rfl, ?_⟩; have n0_ := Aside0.mk (Kd.R_below (kr_ HO210) hb); have n1_ := Aside0.mk (Kd.R_elder' (kr_ HO213) (Kd.R_base ho0) hb); have n2_ := Aside0.mk (Kd.R_elder' (kr_ HO216) (Kd.R_base ho0) hb); have n3_ := Aside0.mk (Kd.R_elder' (kr_ HO219) (Kd.R_base ho0) hb); have n4_ := Aside0.mk (Kd.R_lower (Kd.R_new' (Kd.R_new' (Kd.R_new' ho0 (Kd.R_lt (kr_ HO213))) (Kd.R_lt (kr_ HO216))) (Kd.R_lt (kr_ HO219))) (below_size (bl1_ HB GE130))); have n5_ := Aside0.mk (blk_below (g := gb130) (bk_ BK130) hb); have n6_ := Aside0.mk (below_step (bl1_ HB GE130) hb); clear HO210; clear HO213; clear HO216; clear HO219; clear BK130; clear HB; have HO210 := n0_; have HO213 := n1_; have HO216 := n2_; have HO219 := n3_; have HO222 := n4_; have BK130 := n5_; have HB := n6_; clear n0_ n1_ n2_ n3_ n4_ n5_ n6_; (try clear hb); (try clear hb2); (try clear hk); (try clear hi); (try clear ho0); obtain ⟨Ao108, co108, eo108⟩ := Kd.R_slice HO222.out; subst eo108) | ((with_reducible refine gate_builtin (b := .append) (xs := #[.tmp 111, .tmp 115]) rfl ?_); at_builtin; refine Kd.R_append_rows (Kd.int .u8) (w0 := w) w.heap.size rfl (.tmp 111) (.tmp 115) 58 5 (.int .u8 0) 1 rfl Try.underlying58 info5 rfl (by decide) (by omega) v215 y214 t220 _ _ _ (fun k_ => some k_ ≠ (.slice Ao102 t211.length co102 : Value).ownBlock ∧ some k_ ≠ (.slice Ao105 t217.length co105 : Value).ownBlock ∧ some k_ ≠ (.slice Ao108 t220.length co108 : Value).ownBlock) (fun _ => False) rfl rfl ?aO ?aR (fun _ _ h => h) (fun _ h => h.elim) ?aF ?aB ?aS ?aL ?_; (case aR => exact sc_ (Kd.R_reads' HO222.out).2.2); (case aB => exact (bl1_ HB GE130)); (case aF => exact (fun k_ hk => ⟨Kd.fresh' (Kd.R_lt (kr_ HO213)) k_ hk, Kd.fresh' (Kd.R_lt (kr_ HO219)) k_ hk, Kd.fresh' (Kd.R_lt (kr_ HO222)) k_ hk⟩)); (case aO => exact (by (with_reducible repeat (first | apply Kd.R_alloc | apply Kd.R_drewN | apply Kd.R_drew)); exact Kd.R_mono HO216.out (fun _ hk => ⟨hk.1.1, ⟨hk.1.2, hk.2⟩⟩))); (case aS => exact (below_size (bl1_ HB GE130))); (case aL => have := LMc95.out; omega); intro v224 w107 ho hb hg hat; rw [← Ny223.out] at ho; have n0_ := Aside0.mk (blk_grown (g := gb130) (bk_ BK130) hg (Kd.R_ne HO216.out BK130.out (by decide))); have n1_ := Aside0.mk (Kd.R_over' (kr_ HO210) (Kd.R_typed (kr_ HO216)) (by decide) hg); have n2_ := Aside0.mk (Kd.R_after (ok := (fun k_ => some k_ ≠ (.slice Ao105 t217.length co105 : Value).ownBlock ∧ some k_ ≠ (.slice Ao108 t220.length co108 : Value).ownBlock)) (by (with_reducible repeat (first | apply Kd.R_alloc | apply Kd.R_drewN | apply Kd.R_drew)); exact Kd.R_mono HO213.out (fun _ hk => ⟨⟨hk.1.2, hk.2⟩, hk.1.1.2⟩)) hg hat); have n3_ := Aside0.mk (Kd.R_after (ok := (fun k_ => some k_ ≠ (.slice Ao102 t211.length co102 : Value).ownBlock ∧ some k_ ≠ (.slice Ao108 t220.length co108 : Value).ownBlock)) (by (with_reducible repeat (first | apply Kd.R_alloc | apply Kd.R_drewN | apply Kd.R_drew)); exact Kd.R_mono HO219.out (fun _ hk => ⟨⟨hk.1.1.2, hk.2⟩, hk.1.2⟩)) hg hat); have n4_ := Aside0.mk (Kd.R_after (ok := (fun k_ => some k_ ≠ (.slice Ao102 t211.length co102 : Value).ownBlock ∧ some k_ ≠ (.slice Ao105 t217.length co105 : Value).ownBlock)) (by (with_reducible repeat (first | apply Kd.R_alloc | apply Kd.R_drewN | apply Kd.R_drew)); exact Kd.R_mono HO222.out (fun _ hk => ⟨⟨hk.1.1.2, hk.2⟩, hk.1.2⟩)) hg hat); have n5_ := Aside0.mk (hb); have n6_ := Aside0.mk (ho); clear BK130; clear HO210; clear HO213; clear HO219; clear HO222; clear HB; clear HO216; have BK130 := n0_; have HO210 := n1_; have HO213 := n2_; have HO219 := n3_; have HO222 := n4_; have HB := n5_; have HO225 := n6_; clear n0_ n1_ n2_ n3_ n4_ n5_ n6_; clear ho hb hg hat))
           go_ret
           exact ⟨_, er_, by (with_reducible repeat (first | apply Kd.R_alloc | apply Kd.R_drewN | apply Kd.R_drew)); exact Kd.R_mono HO225.out (fun _ hk => trivial), bl1_ HB GE130⟩
          ·rw [if_neg c95] at H
           exact absurd H (by simp)
         ·rw [if_neg c92] at H
          exact absurd H (by simp)
end Go.Proofs.Ytocicifgglkaeaa.PR
end

section
namespace Go.Proofs.Ytocicifgglkaeaa.Mth
open Go.RowKit Go.Proofs.YtocicifgglkaeaaW.PrintWords Go.Proofs.YtocicifgglkaeaaW.PrintLast Go.Proofs.YtocicifgglkaeaaW.PrintMore Go.Proofs.Ytocicifgglkaeaa.Ext Go.Proofs.Ytocicifgglkaeaa.ExtF Go.Proofs.Ytocicifgglkaeaa.PP Go.Proofs.Ytocicifgglkaeaa.PQ Go.Proofs.Ytocicifgglkaeaa.ExtM Go.Proofs.Ytocicifgglkaeaa.MathP Go.Proofs.Ytocicifgglkaeaa.PR
set_option linter.unusedVariables false
set_option linter.unusedSimpArgs false
theorem within_f (a lo hi : Int) : pdu_within.f a lo hi = some (decide (lo ≤ a ∧ a ≤ hi)) := by
 unfold pdu_within.f
 by_cases h : a ≥ lo
 ·rw [if_pos h]; exact congrArg some (decide_eq_decide.2 (by omega))
 ·rw [if_neg h]; exact congrArg some (decide_eq_false (by omega)).symm
theorem pspan_f (a n : Int) : pdu_span.f a n = some (spanB a n) := by
 unfold pdu_span.f
 rw [within_f, Option.bind_some]
 unfold spanB
 by_cases h : 0 ≤ a ∧ a ≤ 65535
 ·rw [if_pos (by rw [decide_eq_true_eq]; exact h), wrap64_id _ (by omega) (by omega)]; exact congrArg some (decide_eq_decide.2 (by omega))
 ·rw [if_neg (by rw [decide_eq_true_eq]; exact h)]; exact congrArg some (decide_eq_false (by omega)).symm
def Low (m : Int) (l : List Int) : Prop := ∀ x ∈ l, 0 ≤ x ∧ x ≤ m
instance (m : Int) (l : List Int) : Decidable (Low m l) := by unfold Low; infer_instance
theorem all_l0 (l : List Int) (m : Int) (hl : l.length ≤ 1000000000000) : ∀ (d i k : Nat), i + d = l.length → d + 1 ≤ k → pdu_all.l0 k m l (l.length : Int) (i : Int) = some (decide (Low m (l.drop i)))
 | 0, i, k, hi, hk => by
  obtain ⟨k, rfl⟩ := Nat.exists_eq_add_of_le' (show 1 ≤ k by omega)
  unfold pdu_all.l0
  rw [if_neg (by omega), List.drop_of_length_le (by omega)]
  exact congrArg some (decide_eq_true (fun x hx => by cases hx)).symm
 | d + 1, i, k, hi, hk => by
  obtain ⟨k, rfl⟩ := Nat.exists_eq_add_of_le' (show 1 ≤ k by omega)
  have hw : wrap64 ((i : Int) + 1) = ((i + 1 : Nat) : Int) := by rw [wrap64_id _ (by omega) (by omega)]; omega
  have hlt : i < l.length := by omega
  have hrd : rd l (i : Int) = l[i] := by simp [rd, List.getElem?_eq_getElem hlt]
  have hcons : l.drop i = l[i] :: l.drop (i + 1) := List.drop_eq_getElem_cons hlt
  unfold pdu_all.l0
  rw [if_pos (by omega), if_pos (by omega), if_pos (by omega), hw, within_f, Option.bind_some, hrd, hcons]
  have e : Low m (l[i] :: l.drop (i + 1)) ↔ (0 ≤ l[i] ∧ l[i] ≤ m) ∧ Low m (l.drop (i + 1)) := List.forall_mem_cons
  by_cases h : 0 ≤ l[i] ∧ l[i] ≤ m
  ·rw [if_pos (by rw [decide_eq_true_eq]; exact h), all_l0 l m hl d (i + 1) k (by omega) (by omega)]
   congr 1; rw [decide_eq_decide, e]; exact ⟨fun x => ⟨h, x⟩, fun x => x.2⟩
  ·rw [if_neg (by rw [decide_eq_true_eq]; exact h)]
   congr 1; rw [eq_comm, decide_eq_false_iff_not, e]; exact fun x => h x.1
theorem all_f (l : List Int) (m : Int) (hl : l.length ≤ 1000000000000) (k : Nat) (hk : l.length + 1 ≤ k) : pdu_all.f k l m = some (decide (Low m l)) := by
 have := all_l0 l m hl l.length 0 k (by omega) (by omega)
 unfold pdu_all.f
 rw [List.drop_zero] at this
 exact this
theorem low_one (l : List Int) : Low 1 l ↔ Bits l := by
 unfold Low Bits
 exact ⟨fun h x hx => by have := h x hx; omega, fun h x hx => by have := h x hx; omega⟩
theorem some_bit (l : List Int) (lo hi : Nat) (hl : l.length ≤ 1000000000000) (k : Nat) (hk : l.length + 1 ≤ k) : pdu_some.f k l (lo : Int) (hi : Int) 1 = some (valB true l lo hi) := by
 unfold pdu_some.f valB
 rw [within_f, Option.bind_some]
 by_cases h : lo ≤ l.length ∧ l.length ≤ hi
 ·rw [if_pos (by rw [decide_eq_true_eq]; omega), all_f l 1 hl k hk, Option.bind_some, decide_eq_true h, Bool.true_and, if_pos rfl]
  congr 1; rw [decide_eq_decide]; exact low_one l
 ·rw [if_neg (by rw [decide_eq_true_eq]; omega), decide_eq_false h, Bool.false_and]
theorem some_word (l : List Int) (lo hi : Nat) (hl : l.length ≤ 1000000000000) (k : Nat) (hk : l.length + 1 ≤ k) : pdu_some.f k l (lo : Int) (hi : Int) 65535 = some (valB false l lo hi) := by
 unfold pdu_some.f valB
 rw [within_f, Option.bind_some]
 by_cases h : lo ≤ l.length ∧ l.length ≤ hi
 ·rw [if_pos (by rw [decide_eq_true_eq]; omega), all_f l 65535 hl k hk, Option.bind_some, decide_eq_true h, Bool.true_and, if_neg (by decide)]
  congr 1
 ·rw [if_neg (by rw [decide_eq_true_eq]; omega), decide_eq_false h, Bool.false_and]
theorem beq_dec (a b : Int) : (a == b) = decide (a = b) := by rw [Bool.eq_iff_iff]; simp
def plainB (a4 a5 a6 : Int) : Bool := (a4 == 0) && ((a5 == 0) && (a6 == 0))
theorem check_plain (k : Nat) (fn a1 a2 : Int) (l : List Int) (a4 a5 a6 : Int) : pdu_Check.f k fn a1 a2 l a4 a5 a6 = pdu_Check.j0 k false (l.length : Int) (plainB a4 a5 a6) fn a1 a2 l a4 a5 a6 := by
 unfold pdu_Check.f plainB
 by_cases h4 : a4 = 0
 ·subst h4
  by_cases h5 : a5 = 0
  ·subst h5; rfl
  ·rw [if_pos rfl, if_neg h5, show (a5 == 0) = false from beq_eq_false_iff_ne.2 h5]; rfl
 ·rw [if_neg h4, show (a4 == 0) = false from beq_eq_false_iff_ne.2 h4]; rfl
def chk (b : Bool) : Option Int := some (if b then 0 else 1)
theorem chk_and (c d : Bool) : chk (c && d) = if c = true then chk d else some 1 := by cases c <;> rfl
theorem chk_if (p : Prop) [Decidable p] (d : Bool) : chk (decide p && d) = if p then chk d else some 1 := by by_cases h : p <;> simp [h, chk]
def mayP (fn a1 a2 : Int) (l : List Int) (a4 a5 a6 : Int) : Bool :=
 if fn = 1 ∨ fn = 2 then plainB a4 a5 a6 && (decide ((l.length : Int) = 0) && (decide (1 ≤ a2 ∧ a2 ≤ 2000) && (spanB a1 a2 && true)))
 else if fn = 3 ∨ fn = 4 then plainB a4 a5 a6 && (decide ((l.length : Int) = 0) && (decide (1 ≤ a2 ∧ a2 ≤ 125) && (spanB a1 a2 && true)))
 else if fn = 5 then plainB a4 a5 a6 && (decide (a2 = 0) && (valB true l 1 1 && (spanB a1 1 && true)))
 else if fn = 6 then plainB a4 a5 a6 && (decide (a2 = 0) && (valB false l 1 1 && (spanB a1 1 && true)))
 else if fn = 15 then plainB a4 a5 a6 && (decide (a2 = (l.length : Int)) && (valB true l 1 1968 && (spanB a1 (l.length : Int) && true)))
 else if fn = 16 then plainB a4 a5 a6 && (decide (a2 = (l.length : Int)) && (valB false l 1 123 && (spanB a1 (l.length : Int) && true)))
 else if fn = 22 then decide ((l.length : Int) = 0) && (decide (a4 = 0) && (decide (a2 = 0) && (spanB a1 1 && (decide (Low 65535 [a5, a6]) && true))))
 else if fn = 23 then decide (a5 = 0) && (decide (a6 = 0) && (decide (1 ≤ a2 ∧ a2 ≤ 125) && (spanB a1 a2 && (valB false l 1 121 && (spanB a4 (l.length : Int) && true)))))
 else false
theorem low_two (a b : Int) : decide (Low 65535 [a, b]) = (isB a && isB b) := by
 unfold isB
 rw [← Bool.decide_and, decide_eq_decide]
 simp [Low]
theorem mayP_eq (fn a1 a2 : Int) (l : List Int) (a4 a5 a6 : Int) : mayP fn a1 a2 l a4 a5 a6 = mayB fn a1 a2 l a4 a5 a6 := by
 unfold mayP mayB plainB
 rw [low_two]
 simp only [Bool.decide_and, ← beq_dec, Bool.and_true]
 split
 ·rw [Bool.eq_iff_iff]; simp only [Bool.and_eq_true]; constructor <;> (intro h; simp_all)
 split
 ·rw [Bool.eq_iff_iff]; simp only [Bool.and_eq_true]; constructor <;> (intro h; simp_all)
 split
 ·rw [Bool.eq_iff_iff]; simp only [Bool.and_eq_true]; constructor <;> (intro h; simp_all)
 split
 ·rw [Bool.eq_iff_iff]; simp only [Bool.and_eq_true]; constructor <;> (intro h; simp_all)
 split
 ·rw [Bool.eq_iff_iff]; simp only [Bool.and_eq_true]; constructor <;> (intro h; simp_all)
 split
 ·rw [Bool.eq_iff_iff]; simp only [Bool.and_eq_true]; constructor <;> (intro h; simp_all)
 split
 ·rw [Bool.eq_iff_iff]; simp only [Bool.and_eq_true]; constructor <;> (intro h; simp_all)
 split
 ·rw [Bool.eq_iff_iff]; simp only [Bool.and_eq_true]; constructor <;> (intro h; simp_all)
 rfl
theorem check_f (k : Nat) (fn a1 a2 : Int) (l : List Int) (a4 a5 a6 : Int) (hl : l.length ≤ 1000000000000) (hk : l.length + 10 ≤ k) :
 pdu_Check.f k fn a1 a2 l a4 a5 a6 = some (if mayB fn a1 a2 l a4 a5 a6 then 0 else 1) := by
 rw [check_plain, ← mayP_eq]
 obtain ⟨k, rfl⟩ : ∃ m, k = m + 1 + 1 + 1 := ⟨k - 3, by omega⟩
 show _ = chk _
 have hA : pdu_all.f k [a5, a6] 65535 = some (decide (Low 65535 [a5, a6])) := all_f [a5, a6] 65535 (by simp) k (by simp; omega)
 have b1 := some_bit l 1 1 hl k (by omega)
 have w1 := some_word l 1 1 hl k (by omega)
 have b2 := some_bit l 1 1968 hl k (by omega)
 have w2 := some_word l 1 123 hl k (by omega)
 have w3 := some_word l 1 121 hl k (by omega)
 rw [pdu_Check.j0]
 by_cases c1 : fn = 1
 ·subst c1
  rw [if_pos rfl, pdu_Check.j1, if_pos (show ((1 : Int) == 1) = true from rfl), within_f, Option.bind_some, pspan_f, Option.bind_some]
  show _ = chk (plainB a4 a5 a6 && (decide ((l.length : Int) = 0) && (decide (1 ≤ a2 ∧ a2 ≤ 2000) && (spanB a1 a2 && true))))
  rw [chk_and, chk_if, chk_and, chk_and]
  rfl
 by_cases c2 : fn = 2
 ·subst c2
  rw [if_neg (show ¬ ((2 : Int) = 1) by decide), pdu_Check.j1, if_pos (show ((2 : Int) == 2) = true from rfl), within_f, Option.bind_some, pspan_f, Option.bind_some]
  show _ = chk (plainB a4 a5 a6 && (decide ((l.length : Int) = 0) && (decide (1 ≤ a2 ∧ a2 ≤ 2000) && (spanB a1 a2 && true))))
  rw [chk_and, chk_if, chk_and, chk_and]
  rfl
 rw [if_neg c1, beq_eq_false_iff_ne.2 c2, pdu_Check.j1, if_neg Bool.false_ne_true]
 by_cases c3 : fn = 3
 ·subst c3
  rw [if_pos rfl, pdu_Check.j2, if_pos (show ((3 : Int) == 3) = true from rfl), within_f, Option.bind_some, pspan_f, Option.bind_some]
  show _ = chk (plainB a4 a5 a6 && (decide ((l.length : Int) = 0) && (decide (1 ≤ a2 ∧ a2 ≤ 125) && (spanB a1 a2 && true))))
  rw [chk_and, chk_if, chk_and, chk_and]
  rfl
 by_cases c4 : fn = 4
 ·subst c4
  rw [if_neg (show ¬ ((4 : Int) = 3) by decide), pdu_Check.j2, if_pos (show ((4 : Int) == 4) = true from rfl), within_f, Option.bind_some, pspan_f, Option.bind_some]
  show _ = chk (plainB a4 a5 a6 && (decide ((l.length : Int) = 0) && (decide (1 ≤ a2 ∧ a2 ≤ 125) && (spanB a1 a2 && true))))
  rw [chk_and, chk_if, chk_and, chk_and]
  rfl
 rw [if_neg c3, beq_eq_false_iff_ne.2 c4, pdu_Check.j2, if_neg Bool.false_ne_true]
 by_cases c5 : fn = 5
 ·subst c5
  rw [if_pos rfl, show pdu_some.f k l 1 1 1 = _ from b1, Option.bind_some, pspan_f, Option.bind_some]
  show _ = chk (plainB a4 a5 a6 && (decide (a2 = 0) && (valB true l 1 1 && (spanB a1 1 && true))))
  rw [chk_and, chk_if, chk_and, chk_and]
  rfl
 rw [if_neg c5]
 by_cases c6 : fn = 6
 ·subst c6
  rw [if_pos rfl, show pdu_some.f k l 1 1 65535 = _ from w1, Option.bind_some, pspan_f, Option.bind_some]
  show _ = chk (plainB a4 a5 a6 && (decide (a2 = 0) && (valB false l 1 1 && (spanB a1 1 && true))))
  rw [chk_and, chk_if, chk_and, chk_and]
  rfl
 rw [if_neg c6]
 by_cases c15 : fn = 15
 ·subst c15
  rw [if_pos rfl, show pdu_some.f k l 1 1968 1 = _ from b2, Option.bind_some, pspan_f, Option.bind_some]
  show _ = chk (plainB a4 a5 a6 && (decide (a2 = (l.length : Int)) && (valB true l 1 1968 && (spanB a1 (l.length : Int) && true))))
  rw [chk_and, chk_if, chk_and, chk_and]
  rfl
 rw [if_neg c15]
 by_cases c16 : fn = 16
 ·subst c16
  rw [if_pos rfl, show pdu_some.f k l 1 123 65535 = _ from w2, Option.bind_some, pspan_f, Option.bind_some]
  show _ = chk (plainB a4 a5 a6 && (decide (a2 = (l.length : Int)) && (valB false l 1 123 && (spanB a1 (l.length : Int) && true))))
  rw [chk_and, chk_if, chk_and, chk_and]
  rfl
 rw [if_neg c16]
 by_cases c22 : fn = 22
 ·subst c22
  rw [if_pos rfl, pspan_f, Option.bind_some, hA, Option.bind_some]
  show _ = chk (decide ((l.length : Int) = 0) && (decide (a4 = 0) && (decide (a2 = 0) && (spanB a1 1 && (decide (Low 65535 [a5, a6]) && true)))))
  rw [chk_if, chk_if, chk_if, chk_and, chk_and]
  rfl
 rw [if_neg c22]
 by_cases c23 : fn = 23
 ·subst c23
  rw [if_pos rfl, within_f, Option.bind_some, pspan_f, Option.bind_some, show pdu_some.f k l 1 121 65535 = _ from w3, Option.bind_some, pspan_f, Option.bind_some]
  show _ = chk (decide (a5 = 0) && (decide (a6 = 0) && (decide (1 ≤ a2 ∧ a2 ≤ 125) && (spanB a1 a2 && (valB false l 1 121 && (spanB a4 (l.length : Int) && true))))))
  rw [chk_if, chk_if, chk_and, chk_and, chk_and, chk_and]
  rfl
 rw [if_neg c23, if_neg Bool.false_ne_true]
 unfold mayP
 rw [if_neg (by omega), if_neg (by omega), if_neg c5, if_neg c6, if_neg c15, if_neg c16, if_neg c22, if_neg c23]
 rfl
end Go.Proofs.Ytocicifgglkaeaa.Mth
end

section
namespace Go.Proofs.Ytocicifgglkaeaa.Mth
open Go.RowKit Go.Proofs.YtocicifgglkaeaaW.PrintWords Go.Proofs.YtocicifgglkaeaaW.PrintLast Go.Proofs.YtocicifgglkaeaaW.PrintMore Go.Proofs.Ytocicifgglkaeaa.Ext Go.Proofs.Ytocicifgglkaeaa.ExtF Go.Proofs.Ytocicifgglkaeaa.PP Go.Proofs.Ytocicifgglkaeaa.PQ Go.Proofs.Ytocicifgglkaeaa.ExtM Go.Proofs.Ytocicifgglkaeaa.MathP Go.Proofs.Ytocicifgglkaeaa.PR
set_option linter.unusedVariables false
set_option linter.unusedSimpArgs false
def tailB (fn a2 : Int) (l : List Int) (a4 a5 a6 : Int) : List Int :=
 if fn = 5 then lays [65280 * rd l 0]
 else if fn = 6 then lays [rd l 0]
 else if fn = 22 then lays [a5, a6]
 else if fn = 15 then lays [a2] ++ (((packs l).length : Int) % 256 :: packs l)
 else if fn = 23 then lays [a2, a4, (l.length : Int)] ++ (((lays l).length : Int) % 256 :: lays l)
 else if fn = 16 then lays [a2] ++ (((lays l).length : Int) % 256 :: lays l)
 else lays [a2]
def reqB (fn a1 a2 : Int) (l : List Int) (a4 a5 a6 : Int) : List Int := ([fn % 256] ++ lays [a1]) ++ tailB fn a2 l a4 a5 a6
theorem lay_f (l m : List Int) (h : m ≠ []) (hw : Words m) (h0 : l.length ≤ 100000000) (h1 : m.length ≤ 100000000) : pdu_lay.f l m = some (l ++ lays m) := by
 unfold pdu_lay.f
 rw [if_pos ⟨h, hw, h0, h1⟩]
theorem words1 {a : Int} (h : 0 ≤ a ∧ a ≤ 65535) : Words [a] := by intro x hx; simp only [List.mem_singleton] at hx; subst hx; exact h
theorem words2 {a b : Int} (h : 0 ≤ a ∧ a ≤ 65535) (h2 : 0 ≤ b ∧ b ≤ 65535) : Words [a, b] := by
 intro x hx; simp only [List.mem_cons, List.not_mem_nil, or_false] at hx; rcases hx with rfl | rfl <;> assumption
theorem words3 {a b c : Int} (h : 0 ≤ a ∧ a ≤ 65535) (h2 : 0 ≤ b ∧ b ≤ 65535) (h3 : 0 ≤ c ∧ c ≤ 65535) : Words [a, b, c] := by
 intro x hx; simp only [List.mem_cons, List.not_mem_nil, or_false] at hx; rcases hx with rfl | rfl | rfl <;> assumption
theorem words4 {a b c d : Int} (h : 0 ≤ a ∧ a ≤ 65535) (h2 : 0 ≤ b ∧ b ≤ 65535) (h3 : 0 ≤ c ∧ c ≤ 65535) (h4 : 0 ≤ d ∧ d ≤ 65535) : Words [a, b, c, d] := by
 intro x hx; simp only [List.mem_cons, List.not_mem_nil, or_false] at hx; rcases hx with rfl | rfl | rfl | rfl <;> assumption
theorem pcounted_f (l m : List Int) (h0 : l.length ≤ 100000000) (h1 : m.length ≤ 100000000) : PQ.pdu_counted.f l m = some (l ++ ((m.length : Int) % 256 :: m)) := by
 unfold PQ.pdu_counted.f
 rw [if_pos (by omega), Option.bind_some, if_pos (by simp; omega)]
 simp
theorem packs_len (l : List Int) : (packs l).length = (l.length + 7) / 8 := by simp [packs]
theorem ppacked_f (l : List Int) (hb : Bits l) (hl : l.length ≤ 1000000000000) (k : Nat) (hk : l.length + 1 ≤ k) : pdu_packed.f k l = some (packs l) := by
 unfold pdu_packed.f
 rw [pack_yes l hb hl k hk, Option.bind_some]
structure MayIs (fn a1 a2 : Int) (l : List Int) (a4 a5 a6 : Int) : Prop where
 addr : 0 ≤ a1 ∧ a1 ≤ 65535
 fns : fn = 1 ∨ fn = 2 ∨ fn = 3 ∨ fn = 4 ∨ fn = 5 ∨ fn = 6 ∨ fn = 15 ∨ fn = 16 ∨ fn = 22 ∨ fn = 23
 len : l.length ≤ 1968
 nov : fn = 1 ∨ fn = 2 ∨ fn = 3 ∨ fn = 4 ∨ fn = 22 → l = []
 cnt : fn = 1 ∨ fn = 2 ∨ fn = 3 ∨ fn = 4 ∨ fn = 23 → 1 ≤ a2 ∧ a2 ≤ 2000
 regs : fn = 3 ∨ fn = 4 ∨ fn = 23 → a2 ≤ 125
 cnt0 : fn = 5 ∨ fn = 6 ∨ fn = 22 → a2 = 0
 cntl : fn = 15 ∨ fn = 16 → a2 = (l.length : Int)
 one : fn = 5 ∨ fn = 6 → l.length = 1
 bits : fn = 5 ∨ fn = 15 → Bits l
 wrds : fn = 6 ∨ fn = 16 ∨ fn = 23 → Words l
 many : fn = 15 ∨ fn = 16 ∨ fn = 23 → 1 ≤ l.length
 most : fn = 16 ∨ fn = 23 → l.length ≤ 123
 to0 : fn ≠ 23 → a4 = 0
 tow : 0 ≤ a4 ∧ a4 ≤ 65535
 m0 : fn ≠ 22 → a5 = 0 ∧ a6 = 0
 m : (0 ≤ a5 ∧ a5 ≤ 65535) ∧ (0 ≤ a6 ∧ a6 ≤ 65535)
theorem valB_true {bit : Bool} {l : List Int} {lo hi : Nat} (h : valB bit l lo hi = true) : (lo ≤ l.length ∧ l.length ≤ hi) ∧ (bit = true → Bits l) ∧ (bit = false → Words l) := by
 unfold valB at h
 rw [Bool.and_eq_true, decide_eq_true_eq] at h
 refine ⟨h.1, fun e => ?_, fun e => ?_⟩ <;> (subst e; simpa using h.2)
theorem may_is {fn a1 a2 : Int} {l : List Int} {a4 a5 a6 : Int} (h : mayB fn a1 a2 l a4 a5 a6 = true) : MayIs fn a1 a2 l a4 a5 a6 := by
 unfold mayB at h
 split at h
 ·next c =>
  simp only [Bool.and_eq_true, beq_iff_eq, decide_eq_true_eq, spanB] at h
  obtain ⟨⟨⟨⟨⟨hn, h5, h6⟩, h4⟩, h1⟩, h2⟩, h3⟩ := h
  obtain rfl : l = [] := List.length_eq_zero_iff.1 (by omega)
  exact ⟨by omega, by omega, by simp, fun _ => rfl, fun _ => by omega, fun _ => by omega, fun _ => by omega, fun _ => by omega, fun _ => by omega, fun _ _ hx => (List.not_mem_nil hx).elim, fun _ _ hx => (List.not_mem_nil hx).elim, fun _ => by omega, fun _ => by simp, fun _ => h4, by omega, fun _ => ⟨h5, h6⟩, by omega⟩
 split at h
 ·next c0 c =>
  simp only [Bool.and_eq_true, beq_iff_eq, decide_eq_true_eq, spanB] at h
  obtain ⟨⟨⟨⟨⟨hn, h5, h6⟩, h4⟩, h1⟩, h2⟩, h3⟩ := h
  obtain rfl : l = [] := List.length_eq_zero_iff.1 (by omega)
  exact ⟨by omega, by omega, by simp, fun _ => rfl, fun _ => by omega, fun _ => by omega, fun _ => by omega, fun _ => by omega, fun _ => by omega, fun _ _ hx => (List.not_mem_nil hx).elim, fun _ _ hx => (List.not_mem_nil hx).elim, fun _ => by omega, fun _ => by simp, fun _ => h4, by omega, fun _ => ⟨h5, h6⟩, by omega⟩
 split at h
 ·next c0 c1 c =>
  simp only [Bool.and_eq_true, beq_iff_eq, decide_eq_true_eq, spanB] at h
  obtain ⟨⟨⟨⟨⟨h5, h6⟩, h4⟩, h2⟩, hv⟩, h3⟩ := h
  obtain ⟨hl, hb, _⟩ := valB_true hv
  exact ⟨by omega, by omega, by omega, fun _ => by omega, fun _ => by omega, fun _ => by omega, fun _ => by omega, fun _ => by omega, fun _ => by omega, fun _ => hb rfl, fun _ => by omega, fun _ => by omega, fun _ => by omega, fun _ => h4, by omega, fun _ => ⟨h5, h6⟩, by omega⟩
 split at h
 ·next c0 c1 c2 c =>
  simp only [Bool.and_eq_true, beq_iff_eq, decide_eq_true_eq, spanB] at h
  obtain ⟨⟨⟨⟨⟨h5, h6⟩, h4⟩, h2⟩, hv⟩, h3⟩ := h
  obtain ⟨hl, _, hb⟩ := valB_true hv
  exact ⟨by omega, by omega, by omega, fun _ => by omega, fun _ => by omega, fun _ => by omega, fun _ => by omega, fun _ => by omega, fun _ => by omega, fun _ => by omega, fun _ => hb rfl, fun _ => by omega, fun _ => by omega, fun _ => h4, by omega, fun _ => ⟨h5, h6⟩, by omega⟩
 split at h
 ·next c0 c1 c2 c3 c =>
  simp only [Bool.and_eq_true, beq_iff_eq, decide_eq_true_eq, spanB] at h
  obtain ⟨⟨⟨⟨⟨h5, h6⟩, h4⟩, h2⟩, hv⟩, h3⟩ := h
  obtain ⟨hl, hb, _⟩ := valB_true hv
  exact ⟨by omega, by omega, by omega, fun _ => by omega, fun _ => by omega, fun _ => by omega, fun _ => by omega, fun _ => h2, fun _ => by omega, fun _ => hb rfl, fun _ => by omega, fun _ => by omega, fun _ => by omega, fun _ => h4, by omega, fun _ => ⟨h5, h6⟩, by omega⟩
 split at h
 ·next c0 c1 c2 c3 c4 c =>
  simp only [Bool.and_eq_true, beq_iff_eq, decide_eq_true_eq, spanB] at h
  obtain ⟨⟨⟨⟨⟨h5, h6⟩, h4⟩, h2⟩, hv⟩, h3⟩ := h
  obtain ⟨hl, _, hb⟩ := valB_true hv
  exact ⟨by omega, by omega, by omega, fun _ => by omega, fun _ => by omega, fun _ => by omega, fun _ => by omega, fun _ => h2, fun _ => by omega, fun _ => by omega, fun _ => hb rfl, fun _ => by omega, fun _ => by omega, fun _ => h4, by omega, fun _ => ⟨h5, h6⟩, by omega⟩
 split at h
 ·next c0 c1 c2 c3 c4 c5 c =>
  simp only [Bool.and_eq_true, beq_iff_eq, decide_eq_true_eq, spanB, isB] at h
  obtain ⟨⟨⟨⟨⟨hn, h4⟩, h2⟩, h3⟩, h5⟩, h6⟩ := h
  obtain rfl : l = [] := List.length_eq_zero_iff.1 (by omega)
  exact ⟨by omega, by omega, by simp, fun _ => rfl, fun _ => by omega, fun _ => by omega, fun _ => by omega, fun _ => by omega, fun _ => by omega, fun _ _ hx => (List.not_mem_nil hx).elim, fun _ _ hx => (List.not_mem_nil hx).elim, fun _ => by omega, fun _ => by simp, fun _ => h4, by omega, fun _ => by omega, by omega⟩
 split at h
 ·next c0 c1 c2 c3 c4 c5 c6 c =>
  simp only [Bool.and_eq_true, beq_iff_eq, decide_eq_true_eq, spanB, isB] at h
  obtain ⟨⟨⟨⟨⟨⟨h5, h6⟩, h1⟩, h2⟩, h3⟩, hv⟩, h7⟩ := h
  obtain ⟨hl, _, hb⟩ := valB_true hv
  exact ⟨by omega, by omega, by omega, fun _ => by omega, fun _ => by omega, fun _ => by omega, fun _ => by omega, fun _ => by omega, fun _ => by omega, fun _ => by omega, fun _ => hb rfl, fun _ => by omega, fun _ => by omega, fun _ => by omega, by omega, fun _ => ⟨h5, h6⟩, by omega⟩
 ·cases h
theorem bytes_no (k : Nat) (fn a1 a2 : Int) (l : List Int) (a4 a5 a6 : Int) (hl : l.length ≤ 1000000000000) (hk : l.length + 10 ≤ k) (h : mayB fn a1 a2 l a4 a5 a6 = false) :
 pdu_Bytes.f k fn a1 a2 l a4 a5 a6 = some ([], 1) := by
 unfold pdu_Bytes.f
 rw [check_f k fn a1 a2 l a4 a5 a6 hl hk, h, Option.bind_some, if_neg (by decide)]
 rfl
theorem bytes_yes (k : Nat) (fn a1 a2 : Int) (l : List Int) (a4 a5 a6 : Int) (hk : 3000 ≤ k) (h : mayB fn a1 a2 l a4 a5 a6 = true) :
 pdu_Bytes.f k fn a1 a2 l a4 a5 a6 = some (reqB fn a1 a2 l a4 a5 a6, 0) := by
 have I := may_is h
 have hlen := I.len
 unfold pdu_Bytes.f
 rw [check_f k fn a1 a2 l a4 a5 a6 (by omega) (by omega), h, Option.bind_some, if_pos (by decide), lay_f _ [a1] (by simp) (words1 I.addr) (by simp) (by simp), Option.bind_some]
 unfold reqB
 have hl2 : ([fn % 256] ++ lays [a1]).length ≤ 100 := by simp [lays_len]
 generalize ([fn % 256] ++ lays [a1]) = p at *
 unfold tailB
 by_cases c5 : fn = 5
 ·have h1 := I.one (Or.inl c5)
  have hb := bits_rd (I.bits (Or.inl c5)) 0
  have hw : wrap64 (65280 * rd l 0) = 65280 * rd l 0 := wrap64_id _ (by omega) (by omega)
  rw [if_pos c5, if_pos c5, if_pos (by omega), hw, lay_f _ _ (by simp) (words1 (by omega)) (by omega) (by simp), Option.bind_some]
 rw [if_neg c5, if_neg c5]
 by_cases c6 : fn = 6
 ·have h1 := I.one (Or.inr c6)
  have hb : 0 ≤ rd l 0 ∧ rd l 0 ≤ 65535 := by
   have hlt : 0 < l.length := by omega
   have hrd : rd l 0 = l[0] := by simp [rd, List.getElem?_eq_getElem hlt]
   rw [hrd]; exact I.wrds (Or.inl c6) _ (List.getElem_mem hlt)
  rw [if_pos c6, if_pos c6, if_pos (by omega), lay_f _ _ (by simp) (words1 hb) (by omega) (by simp), Option.bind_some]
 rw [if_neg c6, if_neg c6]
 by_cases c22 : fn = 22
 ·rw [if_pos c22, if_pos c22, lay_f _ _ (by simp) (words2 I.m.1 I.m.2) (by omega) (by simp), Option.bind_some]
 rw [if_neg c22, if_neg c22]
 by_cases c15 : fn = 15
 ·have hc := I.cntl (Or.inl c15)
  rw [if_pos c15, if_pos c15, lay_f _ [a2] (by simp) (words1 (by omega)) (by omega) (by simp), Option.bind_some, ppacked_f l (I.bits (Or.inr c15)) (by omega) k (by omega), Option.bind_some, pcounted_f _ _ (by simp [lays_len]; omega) (by rw [packs_len]; omega), Option.bind_some, List.append_assoc]
 rw [if_neg c15, if_neg c15]
 by_cases c23 : fn = 23
 ·have hc := I.cnt (by omega)
  have hm := I.many (by omega)
  have hne : l ≠ [] := by intro e; rw [e] at hm; simp at hm
  rw [if_pos c23, if_pos c23, lay_f _ [a2, a4, (l.length : Int)] (by simp) (words3 (by omega) I.tow (by omega)) (by omega) (by simp), Option.bind_some, lay_f [] l hne (I.wrds (by omega)) (by simp) (by omega), Option.bind_some, List.nil_append, pcounted_f _ _ (by simp [lays_len]; omega) (by rw [lays_len]; omega), Option.bind_some, List.append_assoc]
 rw [if_neg c23, if_neg c23]
 by_cases c16 : fn = 16
 ·have hc := I.cntl (Or.inr c16)
  have hm := I.many (by omega)
  have hne : l ≠ [] := by intro e; rw [e] at hm; simp at hm
  rw [if_pos c16, if_pos c16, lay_f _ [a2] (by simp) (words1 (by omega)) (by omega) (by simp), Option.bind_some, lay_f [] l hne (I.wrds (by omega)) (by simp) (by omega), Option.bind_some, List.nil_append, pcounted_f _ _ (by simp [lays_len]; omega) (by rw [lays_len]; omega), Option.bind_some, List.append_assoc]
 rw [if_neg c16, if_neg c16]
 have hc := I.cnt (by have := I.fns; omega)
 rw [lay_f _ [a2] (by simp) (words1 (by omega)) (by omega) (by simp), Option.bind_some]
theorem rword_f (a : Int) (h : 0 ≤ a ∧ a ≤ 65535) : basculeref01_Word.f a = some [a / 256, a % 256] := by
 unfold basculeref01_Word.f
 rw [Int.tdiv_eq_ediv_of_nonneg (by omega), Int.tmod_eq_emod_of_nonneg (by omega), wrap64_id _ (by omega) (by omega), show a / 256 % 256 = a / 256 from by omega, show a % 256 % 256 = a % 256 from by omega]
theorem rlay_l0 (l : List Int) (hw : Words l) (hl : l.length ≤ 1000000000) : ∀ (d i k : Nat), i + d = l.length → d + 1 ≤ k → basculeref03_lay.l0 k l (lays (l.take i)) (i : Int) = some (lays l)
 | 0, i, k, hi, hk => by
  obtain ⟨k, rfl⟩ := Nat.exists_eq_add_of_le' (show 1 ≤ k by omega)
  unfold basculeref03_lay.l0
  rw [if_neg (by omega), List.take_of_length_le (by omega)]
 | d + 1, i, k, hi, hk => by
  obtain ⟨k, rfl⟩ := Nat.exists_eq_add_of_le' (show 1 ≤ k by omega)
  have hwr : wrap64 ((i : Int) + 1) = ((i + 1 : Nat) : Int) := by rw [wrap64_id _ (by omega) (by omega)]; omega
  have hlt : i < l.length := by omega
  have hrd : rd l (i : Int) = l[i] := by simp [rd, List.getElem?_eq_getElem hlt]
  unfold basculeref03_lay.l0
  rw [if_pos (by omega), if_pos (by omega), hrd, rword_f _ (hw _ (List.getElem_mem hlt)), Option.bind_some, if_pos (by rw [lays_len, List.length_take]; simp; omega), hwr, ← lays_snoc, ← List.take_succ_eq_append_getElem hlt]
  exact rlay_l0 l hw hl d (i + 1) k (by omega) (by omega)
theorem rlay_f (l : List Int) (hw : Words l) (hl : l.length ≤ 1000000000) (k : Nat) (hk : l.length + 1 ≤ k) : basculeref03_lay.f k l = some (lays l) := by
 unfold basculeref03_lay.f
 exact rlay_l0 l hw hl l.length 0 k (by omega) (by omega)
theorem both_f (l m : List Int) (h0 : l.length ≤ 100000000) (h1 : m.length ≤ 100000000) : basculeref01_Both.f l m = some (l ++ m) := by
 unfold basculeref01_Both.f
 rw [if_pos (by simp; omega), Option.bind_some, if_pos (by simp; omega)]
 rfl
theorem rcounted_f (m : List Int) (h1 : m.length ≤ 100000000) : basculeref03_counted.f m = some ((m.length : Int) % 256 :: m) := by
 unfold basculeref03_counted.f
 rw [both_f _ _ (by simp) h1, Option.bind_some]
 rfl
theorem rbytes_yes (k : Nat) (fn a1 a2 : Int) (l : List Int) (a4 a5 a6 : Int) (hk : 10000 ≤ k) (h : mayB fn a1 a2 l a4 a5 a6 = true) :
 basculeref03_Bytes.f k fn a1 a2 l a4 a5 a6 = some (reqB fn a1 a2 l a4 a5 a6) := by
 have I := may_is h
 have hlen := I.len
 have hfn := I.fns
 have ha := I.addr
 obtain ⟨k, rfl⟩ : ∃ m, k = m + 1 := ⟨k - 1, by omega⟩
 have e : basculeref03_Bytes.f (k + 1) fn a1 a2 l a4 a5 a6 = basculeref03_Bytes.j0 (k + 1) [fn % 256] fn (decide (fn = 1 ∨ fn = 2 ∨ fn = 3 ∨ fn = 4)) fn a1 a2 l a4 a5 a6 := by
  unfold basculeref03_Bytes.f
  rw [Option.bind_some]
  by_cases c1 : fn = 1
  ·subst c1; rfl
  by_cases c2 : fn = 2
  ·subst c2; rfl
  by_cases c3 : fn = 3
  ·subst c3; rfl
  rw [if_neg c1, if_neg c2, if_neg c3]
  congr 1
  rw [beq_dec, decide_eq_decide]
  omega
 rw [e]
 rw [basculeref03_Bytes.j0]
 unfold reqB
 have hl2 : (lays [a1]).length = 2 := by simp [lays_len]
 have happ : ∀ x m, lays (x :: m) = lays [x] ++ lays m := fun x m => by simp [lays]
 unfold tailB
 by_cases cr : fn = 1 ∨ fn = 2 ∨ fn = 3 ∨ fn = 4
 ·have hc := I.cnt (by omega)
  rw [if_pos (decide_eq_true cr), rlay_f _ (words2 ha (by omega)) (by simp) k (by simp; omega), Option.bind_some, if_pos (by simp [lays_len]), if_neg (by omega), if_neg (by omega), if_neg (by omega), if_neg (by omega), if_neg (by omega), if_neg (by omega), happ a1 [a2], List.append_assoc]
 rw [if_neg (by rw [decide_eq_true_eq]; exact cr)]
 by_cases c5 : fn = 5
 ·have h1 := I.one (Or.inl c5)
  have hb := bits_rd (I.bits (Or.inl c5)) 0
  have hw : wrap64 (65280 * rd l 0) = 65280 * rd l 0 := wrap64_id _ (by omega) (by omega)
  rw [if_pos c5, if_pos c5, if_pos (by omega), hw, rlay_f _ (words2 ha (by omega)) (by simp) k (by simp; omega), Option.bind_some, if_pos (by simp [lays_len]), happ a1 [_], List.append_assoc]
 rw [if_neg c5, if_neg c5]
 by_cases c6 : fn = 6
 ·have h1 := I.one (Or.inr c6)
  have hb : 0 ≤ rd l 0 ∧ rd l 0 ≤ 65535 := by
   have hlt : 0 < l.length := by omega
   have hrd : rd l 0 = l[0] := by simp [rd, List.getElem?_eq_getElem hlt]
   rw [hrd]; exact I.wrds (Or.inl c6) _ (List.getElem_mem hlt)
  rw [if_pos c6, if_pos c6, if_pos (by omega), rlay_f _ (words2 ha hb) (by simp) k (by simp; omega), Option.bind_some, if_pos (by simp [lays_len]), happ a1 [_], List.append_assoc]
 rw [if_neg c6, if_neg c6]
 by_cases c15 : fn = 15
 ·have hc := I.cntl (Or.inl c15)
  rw [if_pos c15, if_neg (by omega), if_pos c15, rlay_f _ (words2 ha (by omega)) (by simp) k (by simp; omega), Option.bind_some, if_pos (by simp [lays_len]), Option.bind_some, refpack_f l (I.bits (Or.inr c15)) (by omega) k (by omega), Option.bind_some, rcounted_f _ (by rw [packs_len]; omega), Option.bind_some, if_pos (by simp [lays_len, packs_len]; omega), happ a1 [a2]]
  simp only [List.append_assoc]
 rw [if_neg c15, if_neg c15]
 by_cases c16 : fn = 16
 ·have hc := I.cntl (Or.inr c16)
  rw [if_pos c16, if_neg (by omega), if_neg (by omega), if_pos c16, rlay_f _ (words2 ha (by omega)) (by simp) k (by simp; omega), Option.bind_some, if_pos (by simp [lays_len]), Option.bind_some, rlay_f l (I.wrds (by omega)) (by omega) k (by omega), Option.bind_some, rcounted_f _ (by rw [lays_len]; omega), Option.bind_some, if_pos (by simp [lays_len]; omega), happ a1 [a2]]
  simp only [List.append_assoc]
 rw [if_neg c16, if_neg c16]
 by_cases c22 : fn = 22
 ·rw [if_pos c22, if_pos c22, rlay_f _ (words3 ha I.m.1 I.m.2) (by simp) k (by simp; omega), Option.bind_some, if_pos (by simp [lays_len]), happ a1 [a5, a6], List.append_assoc]
 rw [if_neg c22, if_neg c22]
 have c23 : fn = 23 := by omega
 have hc := I.cnt (by omega)
 rw [if_pos c23, rlay_f _ (words4 ha (by omega) I.tow (by omega)) (by simp) k (by simp; omega), Option.bind_some, if_pos (by simp [lays_len]), Option.bind_some, rlay_f l (I.wrds (by omega)) (by omega) k (by omega), Option.bind_some, rcounted_f _ (by rw [lays_len]; omega), Option.bind_some, if_pos (by simp [lays_len]; omega), happ a1 [a2, a4, (l.length : Int)]]
 simp only [List.append_assoc]
end Go.Proofs.Ytocicifgglkaeaa.Mth
end

section
namespace Go.Proofs.Ytocicifgglkaeaa.PR
open Go.RowKit Go.Proofs.YtocicifgglkaeaaW.PrintWords Go.Proofs.YtocicifgglkaeaaW.PrintLast Go.Proofs.YtocicifgglkaeaaW.PrintMore
attribute [local go_sem] max2_int min2_int max_two min_two max_three min_three max_four min_four   
set_option linter.unusedVariables false
set_option linter.unusedSimpArgs false
open Go.Proofs.Ytocicifgglkaeaa.Ext Go.Proofs.Ytocicifgglkaeaa.PP Go.Proofs.Ytocicifgglkaeaa.ExtF Go.Proofs.Ytocicifgglkaeaa.PQ Go.Proofs.Ytocicifgglkaeaa.ExtM
mutual
def pdu_AnswerParse.j1 : Nat → List Int → Int → Int → Int → List Int → Int → Int → Int → List Int → Int → Option (List Int × Int × Int)
 | 0, _, _, _, _, _, _, _, _, _, _ => none
 | k + 1, x1, x358000, x358001, x358002, x358003, x358004, x358005, x358006, x361000, x361001 => (pdu_AnswerBytes.f k x358000 x358001 x358002 x358003 x358004 x358005 x358006 x361000 x361001).bind fun bt380 => (if bt380.2 = 0 then ((bytes_Equal.f bt380.1 x1).bind fun t384 => (if t384 = true then (some (x361000, x361001, 0)) else (some (([] : List Int), 0, 4)))) else (some (([] : List Int), 0, 4)))
def pdu_AnswerParse.j0 : Nat → List Int → Bool → Int → Int → Int → List Int → Int → Int → Int → Int → Option (List Int × Int × Int)
 | 0, _, _, _, _, _, _, _, _, _, _ => none
 | k + 1, x1, x39, x358000, x358001, x358002, x358003, x358004, x358005, x358006, x361001 => if x39 = true then (if 2 ≤ (x1.length : Int) then ((wire_Unpack.f k (x1.drop 2) x358002).bind fun bt364 => (pdu_AnswerParse.j1 k x1 x358000 x358001 x358002 x358003 x358004 x358005 x358006 bt364.1 x361001)) else (none)) else (if x358000 = 3 then (if 2 ≤ (x1.length : Int) then ((pdu_words.f k (x1.drop 2)).bind fun t369 => (pdu_AnswerParse.j1 k x1 x358000 x358001 x358002 x358003 x358004 x358005 x358006 t369 x361001)) else (none)) else (if x358000 = 4 then (if 2 ≤ (x1.length : Int) then ((pdu_words.f k (x1.drop 2)).bind fun t373 => (pdu_AnswerParse.j1 k x1 x358000 x358001 x358002 x358003 x358004 x358005 x358006 t373 x361001)) else (none)) else (if x358000 = 23 then (if 2 ≤ (x1.length : Int) then ((pdu_words.f k (x1.drop 2)).bind fun t377 => (pdu_AnswerParse.j1 k x1 x358000 x358001 x358002 x358003 x358004 x358005 x358006 t377 x361001)) else (none)) else (pdu_AnswerParse.j1 k x1 x358000 x358001 x358002 x358003 x358004 x358005 x358006 ([] : List Int) x361001))))
end
def pdu_AnswerParse.f (k : Nat) (a0_0 : Int) (a0_1 : Int) (a0_2 : Int) (l0_3 : List Int) (a0_4 : Int) (a0_5 : Int) (a0_6 : Int) (l1 : List Int) : Option (List Int × Int × Int) := (pdu_Check.f k a0_0 a0_1 a0_2 l0_3 a0_4 a0_5 a0_6).bind fun t359 => (if t359 = 0 then (if (l1.length : Int) < 2 then (some (([] : List Int), 0, 4)) else (if 0 < (l1.length : Int) then (if (wrap64 (rd l1 0)) = (Go.bits .or .i64 a0_0 128) then (if 1 < (l1.length : Int) then (if (wrap64 (rd l1 1)) = 0 then (some (([] : List Int), wrap64 (rd l1 1), 4)) else (pdu_AnswerParse.j1 k l1 a0_0 a0_1 a0_2 l0_3 a0_4 a0_5 a0_6 ([] : List Int) (wrap64 (rd l1 1)))) else (none)) else (if a0_0 = 1 then (pdu_AnswerParse.j0 k l1 true a0_0 a0_1 a0_2 l0_3 a0_4 a0_5 a0_6 0) else (pdu_AnswerParse.j0 k l1 (a0_0 == 2) a0_0 a0_1 a0_2 l0_3 a0_4 a0_5 a0_6 0))) else (none))) else (some (([] : List Int), 0, t359)))
theorem pdu_AnswerParse.mono_l : ∀ k, (∀ y0 y1 y2 y3 y4 y5 y6 y7 y8 y9, LeO (pdu_AnswerParse.j1 k y0 y1 y2 y3 y4 y5 y6 y7 y8 y9) (pdu_AnswerParse.j1 (k + 1) y0 y1 y2 y3 y4 y5 y6 y7 y8 y9)) ∧ (∀ y0 y1 y2 y3 y4 y5 y6 y7 y8 y9, LeO (pdu_AnswerParse.j0 k y0 y1 y2 y3 y4 y5 y6 y7 y8 y9) (pdu_AnswerParse.j0 (k + 1) y0 y1 y2 y3 y4 y5 y6 y7 y8 y9))
 | 0 => ⟨fun _ _ _ _ _ _ _ _ _ _ r h => by simp [pdu_AnswerParse.j1] at h, fun _ _ _ _ _ _ _ _ _ _ r h => by simp [pdu_AnswerParse.j0] at h⟩
 | k + 1 => by
  obtain ⟨ih0, ih1⟩ := pdu_AnswerParse.mono_l k
  refine ⟨?_, ?_⟩
  ·intro y0 y1 y2 y3 y4 y5 y6 y7 y8 y9
   unfold pdu_AnswerParse.j1
   repeat' first
   | (with_reducible exact ih0 _ _ _ _ _ _ _ _ _ _)
   | (with_reducible exact ih1 _ _ _ _ _ _ _ _ _ _)
   | (with_reducible exact pdu_AnswerBytes.mono _ _ _ _ _ _ _ _ _ _)
   | (with_reducible exact pdu_Check.mono _ _ _ _ _ _ _ _)
   | (with_reducible exact pdu_words.mono _ _)
   | (with_reducible exact wire_Unpack.mono _ _ _)
   | (with_reducible exact LeO.refl _)
   | (with_reducible exact LeO.none _)
   | (with_reducible refine LeO.ite ?_ ?_)
   | (with_reducible refine LeO.bind ?_ (fun _ => ?_))
   | exact ih0 _ _ _ _ _ _ _ _ _ _
   | exact ih1 _ _ _ _ _ _ _ _ _ _
   | exact pdu_AnswerBytes.mono _ _ _ _ _ _ _ _ _ _
   | exact pdu_Check.mono _ _ _ _ _ _ _ _
   | exact pdu_words.mono _ _
   | exact wire_Unpack.mono _ _ _
   | exact LeO.none _
   | refine LeO.ite ?_ ?_
   | refine LeO.bind ?_ (fun _ => ?_)
  ·intro y0 y1 y2 y3 y4 y5 y6 y7 y8 y9
   unfold pdu_AnswerParse.j0
   repeat' first
   | (with_reducible exact ih0 _ _ _ _ _ _ _ _ _ _)
   | (with_reducible exact ih1 _ _ _ _ _ _ _ _ _ _)
   | (with_reducible exact pdu_AnswerBytes.mono _ _ _ _ _ _ _ _ _ _)
   | (with_reducible exact pdu_Check.mono _ _ _ _ _ _ _ _)
   | (with_reducible exact pdu_words.mono _ _)
   | (with_reducible exact wire_Unpack.mono _ _ _)
   | (with_reducible exact LeO.refl _)
   | (with_reducible exact LeO.none _)
   | (with_reducible refine LeO.ite ?_ ?_)
   | (with_reducible refine LeO.bind ?_ (fun _ => ?_))
   | exact ih0 _ _ _ _ _ _ _ _ _ _
   | exact ih1 _ _ _ _ _ _ _ _ _ _
   | exact pdu_AnswerBytes.mono _ _ _ _ _ _ _ _ _ _
   | exact pdu_Check.mono _ _ _ _ _ _ _ _
   | exact pdu_words.mono _ _
   | exact wire_Unpack.mono _ _ _
   | exact LeO.none _
   | refine LeO.ite ?_ ?_
   | refine LeO.bind ?_ (fun _ => ?_)
theorem pdu_AnswerParse.mono : ∀ a0 a1 a2 a3 a4 a5 a6 a7 k, LeO (pdu_AnswerParse.f k a0 a1 a2 a3 a4 a5 a6 a7) (pdu_AnswerParse.f (k + 1) a0 a1 a2 a3 a4 a5 a6 a7) := by
 intro a0 a1 a2 a3 a4 a5 a6 a7 k
 obtain ⟨ih0, ih1⟩ := pdu_AnswerParse.mono_l k
 unfold pdu_AnswerParse.f
 repeat' first
  | (with_reducible exact ih0 _ _ _ _ _ _ _ _ _ _)
  | (with_reducible exact ih1 _ _ _ _ _ _ _ _ _ _)
  | (with_reducible exact pdu_AnswerBytes.mono _ _ _ _ _ _ _ _ _ _)
  | (with_reducible exact pdu_Check.mono _ _ _ _ _ _ _ _)
  | (with_reducible exact pdu_words.mono _ _)
  | (with_reducible exact wire_Unpack.mono _ _ _)
  | (with_reducible exact LeO.refl _)
  | (with_reducible exact LeO.none _)
  | (with_reducible refine LeO.ite ?_ ?_)
  | (with_reducible refine LeO.bind ?_ (fun _ => ?_))
  | exact ih0 _ _ _ _ _ _ _ _ _ _
  | exact ih1 _ _ _ _ _ _ _ _ _ _
  | exact pdu_AnswerBytes.mono _ _ _ _ _ _ _ _ _ _
  | exact pdu_Check.mono _ _ _ _ _ _ _ _
  | exact pdu_words.mono _ _
  | exact wire_Unpack.mono _ _ _
  | exact LeO.none _
  | refine LeO.ite ?_ ?_
  | refine LeO.bind ?_ (fun _ => ?_)
def pdu_AnswerParse.T7 : Bool × List (List Nat × List Nat) := (true, [([], []), ([0], [0]), ([1], [1]), ([2], [2]), ([], []), ([4], [4]), ([5], [5]), ([3, 6], [3, 6]), ([7], [7])])
def pdu_AnswerParse.B7 : List Nat := [0, 1, 3, 7, 0, 16, 48, 127, 255]
theorem pdu_AnswerParse.tab7 : rtab .any (opsOf Try.f39 7) = pdu_AnswerParse.T7 := by kernel_rfl
theorem pdu_AnswerParse.bits7 : waitsOk pdu_AnswerParse.T7.2 pdu_AnswerParse.B7 = true := by kernel_rfl
def pdu_AnswerParse.T12 : Bool × List (List Nat × List Nat) := (true, [([], []), ([0], [0]), ([], []), ([2], [2]), ([1, 3], [1, 3]), ([4], [4]), ([5], [5]), ([5], [5]), ([0, 1, 2, 3, 4, 5, 6], []), ([8, 6, 4, 0, 1, 2, 3, 4, 5, 6], [6, 8])])
def pdu_AnswerParse.B12 : List Nat := [0, 1, 0, 4, 15, 31, 63, 63, 127, 383]
theorem pdu_AnswerParse.tab12 : rtab .any (opsOf Try.f39 12) = pdu_AnswerParse.T12 := by kernel_rfl
theorem pdu_AnswerParse.bits12 : waitsOk pdu_AnswerParse.T12.2 pdu_AnswerParse.B12 = true := by kernel_rfl
set_option maxHeartbeats 8000000 in
set_option maxRecDepth 100000 in
theorem pdu_AnswerParse.calls (k : Nat) (a0_0 : Int) (a0_1 : Int) (a0_2 : Int) (A0_3 : Option Addr) (c0_3 : Nat) (l0_3 : List Int) (a0_4 : Int) (a0_5 : Int) (a0_6 : Int) (A1 : Option Addr) (c1 : Nat) (l1 : List Int) (r1 : List Int) (r2 : Int) (r3 : Int) (w : World) (hr0_3 : Kd.C (Kd.int .i64) w A0_3 l0_3.length l0_3) (hc0_3 : l0_3.length ≤ c0_3) (hr1 : Kd.C (Kd.int .u8) w A1 l1.length l1) (hc1 : l1.length ≤ c1) (h : pdu_AnswerParse.f k a0_0 a0_1 a0_2 l0_3 a0_4 a0_5 a0_6 l1 = some (r1, r2, r3)) :
 Calls Try.prog 39 #[.agg #[.int .i64 a0_0, .int .i64 a0_1, .int .i64 a0_2, .slice A0_3 l0_3.length c0_3, .int .i64 a0_4, .int .i64 a0_5, .int .i64 a0_6], .slice A1 l1.length c1] w fun e w' => ∃ v0_ : Value, e = .returned (.tuple #[.agg #[v0_, .int .i64 r2], .int .i64 r3]) ∧ Kd.R (Kd.int .i64) 3 w' w.heap.size (fun _ => True) v0_ r1 ∧ Below w.heap.size w w' := by
 have hu24 := Try.underlying24
 have hu30 := Try.underlying30
 have HR0_3 := Aside0.mk hr0_3
 have HC0_3 := Aside0.mk hc0_3
 clear hr0_3 hc0_3
 have HR1 := Aside0.mk hr1
 have HC1 := Aside0.mk hc1
 clear hr1 hc1
 have HB := Aside0.mk (Below.refl w.heap.size w)
 have H : ((pdu_Check.f k a0_0 a0_1 a0_2 l0_3 a0_4 a0_5 a0_6).bind fun t359 => (if t359 = 0 then (if (l1.length : Int) < 2 then (some (([] : List Int), 0, 4)) else (if 0 < (l1.length : Int) then (if (wrap64 (rd l1 0)) = (Go.bits .or .i64 a0_0 128) then (if 1 < (l1.length : Int) then (if (wrap64 (rd l1 1)) = 0 then (some (([] : List Int), wrap64 (rd l1 1), 4)) else (pdu_AnswerParse.j1 k l1 a0_0 a0_1 a0_2 l0_3 a0_4 a0_5 a0_6 ([] : List Int) (wrap64 (rd l1 1)))) else (none)) else (if a0_0 = 1 then (pdu_AnswerParse.j0 k l1 true a0_0 a0_1 a0_2 l0_3 a0_4 a0_5 a0_6 0) else (pdu_AnswerParse.j0 k l1 (a0_0 == 2) a0_0 a0_1 a0_2 l0_3 a0_4 a0_5 a0_6 0))) else (none))) else (some (([] : List Int), 0, t359)))) = some (r1, r2, r3) := h
 clear h
 replace H := Option.bind_eq_some_iff.mp H
 obtain ⟨t359, A30, H⟩ := H
 replace H : (if t359 = 0 then (if (l1.length : Int) < 2 then (some (([] : List Int), 0, 4)) else (if 0 < (l1.length : Int) then (if (wrap64 (rd l1 0)) = (Go.bits .or .i64 a0_0 128) then (if 1 < (l1.length : Int) then (if (wrap64 (rd l1 1)) = 0 then (some (([] : List Int), wrap64 (rd l1 1), 4)) else (pdu_AnswerParse.j1 k l1 a0_0 a0_1 a0_2 l0_3 a0_4 a0_5 a0_6 ([] : List Int) (wrap64 (rd l1 1)))) else (none)) else (if a0_0 = 1 then (pdu_AnswerParse.j0 k l1 true a0_0 a0_1 a0_2 l0_3 a0_4 a0_5 a0_6 0) else (pdu_AnswerParse.j0 k l1 (a0_0 == 2) a0_0 a0_1 a0_2 l0_3 a0_4 a0_5 a0_6 0))) else (none))) else (some (([] : List Int), 0, t359))) = some (r1, r2, r3) := H
 have A3 := Aside0.mk A30
 clear A30
 by_cases c4 : t359 = 0
 ·rw [if_pos c4] at H
  have c4b0 : (t359 == 0) = true := beq_iff_eq.mpr c4
  have c4b1 : (t359 != 0) = false := bne_eq_false_iff_eq.mpr c4
  clear c4
  have HC5 := Aside0.mk H
  clear H
  go_enter Try.func39, Try.ntmps39
  go_upto_block 0 with (first | ((with_reducible refine gate_dst (N := 2) rfl ?_); refine bx_ (N := 2) (cs := #[.int .i64 a0_0, .int .i64 a0_1, .int .i64 a0_2, .slice A0_3 l0_3.length c0_3, .int .i64 a0_4, .int .i64 a0_5, .int .i64 a0_6]) (t := 24) ?_; intro gb357 hg w6 hbox hb; have n0_ := Aside0.mk (below_step (bl0_ HB) hb); have n1_ := Aside0.mk (hbox); have n2_ := Aside0.mk ((by rw [hg]; exact (below_size (bl0_ HB)) : w.heap.size ≤ gb357)); have n3_ := Aside0.mk ((by rw [hg]; exact (below_size (bl0_ HB)) : w.heap.size ≤ gb357)); clear HB; have HB := n0_; have BK357 := n1_; have GW357 := n2_; have GE357 := n3_; clear n0_ n1_ n2_ n3_; clear hb hbox hg) | ((with_reducible refine gate_dst (N := 4) rfl ?_); refine bx_ (N := 4) (cs := #[.slice none 0 0, .int .i64 0]) (t := 30) ?_; intro gb358 hg w7 hbox hb; have n0_ := Aside0.mk (blk_below (g := gb357) (bk_ BK357) hb); have n1_ := Aside0.mk (below_step (bl1_ HB GE357) hb); have n2_ := Aside0.mk (hbox); have n3_ := Aside0.mk ((by rw [hg]; exact (below_size (bl1_ HB GE357)) : w.heap.size ≤ gb358)); have n4_ := Aside0.mk ((by rw [hg]; exact (below_size (bl1_ HB GE357)) : w.heap.size ≤ gb358)); have n5_ := Aside0.mk ((by rw [hg]; exact Nat.ne_of_lt (blk_lt (g := gb357) (bk_ BK357)) : gb357 ≠ gb358)); have n6_ := Aside0.mk ((by rw [hg]; exact Nat.ne_of_gt (blk_lt (g := gb357) (bk_ BK357)) : gb358 ≠ gb357)); clear BK357; clear HB; have BK357 := n0_; have HB := n1_; have BK358 := n2_; have GW358 := n3_; have GE358 := n4_; have NB357_358 := n5_; have NB358_357 := n6_; clear n0_ n1_ n2_ n3_ n4_ n5_ n6_; clear hb hbox hg; have hnb8 := NB357_358.out; have hnc8 := NB358_357.out; refine cz7_ BK357.out ?_; intro hcz9_0 hcz9_1 hcz9_2 hcz9_3 hcz9_4 hcz9_5 hcz9_6 hfz9_0 hfz9_1 hfz9_2 hfz9_3 hfz9_4 hfz9_5 hfz9_6) | ((with_reducible refine gate_callee (f := 29) rfl ?_); refine goesL_ (some 11) rfl rfl Try.func29 (by kernel_rfl) rfl #[.agg #[.int .i64 a0_0, .int .i64 a0_1, .int .i64 a0_2, .slice A0_3 l0_3.length c0_3, .int .i64 a0_4, .int .i64 a0_5, .int .i64 a0_6]] rfl ar_ ?_; (with_reducible refine (pdu_Check.calls k a0_0 a0_1 a0_2 _ _ l0_3 a0_4 a0_5 a0_6 t359 _ ?side1 ?side2 A3.out).mono ?_); (case side1 => exact sc_ (Kd.C_below HR0_3.out HB.out)); (case side2 => exact HC0_3.out); rintro e w10 ⟨rfl, hb⟩; refine ⟨_, rfl, ?_⟩; have n0_ := Aside0.mk (blk_below (g := gb357) (bk_ BK357) hb); have n1_ := Aside0.mk (blk_below (g := gb358) (bk_ BK358) hb); have n2_ := Aside0.mk (below_step (bl2_ HB GE357 GE358) hb); clear BK357; clear BK358; clear HB; have BK357 := n0_; have BK358 := n1_; have HB := n2_; clear n0_ n1_ n2_; (try clear hb); (try clear hb2); (try clear hk); (try clear hi)) | ((with_reducible refine gate_dst (N := 7) rfl ?_); refine bx_ (N := 7) (cs := #[.slice none 0 0, .int .i64 0]) (t := 30) ?_; intro gb360 hg w11 hbox hb; have n0_ := Aside0.mk (blk_below (g := gb357) (bk_ BK357) hb); have n1_ := Aside0.mk (blk_below (g := gb358) (bk_ BK358) hb); have n2_ := Aside0.mk (below_step (bl2_ HB GE357 GE358) hb); have n3_ := Aside0.mk (hbox); have n4_ := Aside0.mk ((by rw [hg]; exact (below_size (bl2_ HB GE357 GE358)) : w.heap.size ≤ gb360)); have n5_ := Aside0.mk ((by rw [hg]; exact (below_size (bl2_ HB GE357 GE358)) : w.heap.size ≤ gb360)); have n6_ := Aside0.mk ((by rw [hg]; exact Nat.ne_of_lt (blk_lt (g := gb357) (bk_ BK357)) : gb357 ≠ gb360)); have n7_ := Aside0.mk ((by rw [hg]; exact Nat.ne_of_gt (blk_lt (g := gb357) (bk_ BK357)) : gb360 ≠ gb357)); have n8_ := Aside0.mk ((by rw [hg]; exact Nat.ne_of_lt (blk_lt (g := gb358) (bk_ BK358)) : gb358 ≠ gb360)); have n9_ := Aside0.mk ((by rw [hg]; exact Nat.ne_of_gt (blk_lt (g := gb358) (bk_ BK358)) : gb360 ≠ gb358)); clear BK357; clear BK358; clear HB; have BK357 := n0_; have BK358 := n1_; have HB := n2_; have BK360 := n3_; have GW360 := n4_; have GE360 := n5_; have NB357_360 := n6_; have NB360_357 := n7_; have NB358_360 := n8_; have NB360_358 := n9_; clear n0_ n1_ n2_ n3_ n4_ n5_ n6_ n7_ n8_ n9_; clear hb hbox hg))
  (try simp only [Act.put, List.setIfInBounds_toArray, List.set_cons_zero, List.set_cons_succ])
  go_cut [] (fun wc => ∃ (kq : Nat) (x359001_4 : Int) (x361000_4 : List Int) (x361001_4 : Int) (u361000 : Value), Aside0 (pdu_AnswerParse.j1 kq l1 a0_0 a0_1 a0_2 l0_3 a0_4 a0_5 a0_6 x361000_4 x361001_4 = some (r1, r2, r3)) ∧ Aside0 (kq ≤ k) ∧ Aside0 (Kd.R (Kd.int .i64) 3 wc w.heap.size (fun _ => True) u361000 x361000_4) ∧ Aside0 (wc.heap[gb357]? = some (.cells #[.int .i64 a0_0, .int .i64 a0_1, .int .i64 a0_2, (.slice A0_3 l0_3.length c0_3), .int .i64 a0_4, .int .i64 a0_5, .int .i64 a0_6] 24 (0, 0))) ∧ Aside0 (wc.heap[gb358]? = some (.cells #[(.slice none 0 0), .int .i64 x359001_4] 30 (0, 0))) ∧ Aside0 (wc.heap[gb360]? = some (.cells #[u361000, .int .i64 x361001_4] 30 (0, 0))) ∧ Aside0 (Below w.heap.size w wc))
  case first =>
   have H := HC5.out
   clear HC5
   by_cases c12 : (l1.length : Int) < 2
   ·rw [if_pos c12] at H
    have c12b0 : decide ((l1.length : Int) < 2) = true := decide_eq_true c12
    have c12b1 : decide (l1.length < 2) = true := decide_eq_true (by omega)
    clear c12
    (first | rw [c12b0] | (simp only [i64_w, i32_w]; rw [c12b0]) | skip)
    simp only [Option.some.injEq, Prod.mk.injEq] at H
    obtain ⟨rfl, rfl, rfl⟩ := H
    have hnb13 := NB360_357.out
    have hnc13 := NB357_360.out
    have hnb14 := NB360_358.out
    have hnc14 := NB358_360.out
    refine cz2_ BK360.out ?_; intro hcz15_0 hcz15_1 hfz15_0 hfz15_1
    have hnb16 := NB358_357.out
    have hnc16 := NB357_358.out
    refine cz2_ BK358.out ?_; intro hcz17_0 hcz17_1 hfz17_0 hfz17_1
    go_wp2
    refine bodyPost_ret (results_ct rfl _ _ gb358 30 #[.slice none 0 0, .int .i64 0] (0, 0) _ rfl (by (with_reducible repeat (first | refine blk_drewN ?_ _ | refine blk_drew ?_ | refine blk_alloc ?_ _)); refine blk_put (cs := #[.slice none 0 0, .int .i64 0]) ?_ 1 _ rfl; (with_reducible repeat (first | refine blk_drewN ?_ _ | refine blk_drew ?_ | refine blk_alloc ?_ _)); refine blk_put (cs := #[.slice none 0 0, .int .i64 0]) ?_ 0 _ rfl; (with_reducible repeat (first | refine blk_drewN ?_ _ | refine blk_drew ?_ | refine blk_alloc ?_ _)); exact BK358.out) Try.underlying30 rfl (by kernel_rfl)) rfl ?_
    exact ⟨_, er_, by first | exact Kd.R_nil _ _ _ _ _ | exact Kd.N_nil _ _ _ _ _ | exact Kd.V_nil _ _ _ _ _ | exact Kd.Q_nil _ _ _ _ _ | exact Kd.S_nil _ _ _ _ _, bl3_ HB GE357 GE358 GE360⟩
   ·rw [if_neg c12] at H
    have c12b0 : decide ((l1.length : Int) < 2) = false := decide_eq_false c12
    have c12b1 : decide (l1.length < 2) = false := decide_eq_false (by omega)
    clear c12
    (first | rw [c12b0] | (simp only [i64_w, i32_w]; rw [c12b0]) | skip)
    by_cases c18 : 0 < (l1.length : Int)
    ·rw [if_pos c18] at H
     have c18b0 : decide (0 < (l1.length : Int)) = true := decide_eq_true c18
     have c18b1 : decide (0 < l1.length) = true := decide_eq_true (by omega)
     clear c18
     by_cases c19 : (wrap64 (rd l1 0)) = (Go.bits .or .i64 a0_0 128)
     ·rw [if_pos c19] at H
      have c19b0 : ((wrap64 (rd l1 0)) == (Go.bits .or .i64 a0_0 128)) = true := beq_iff_eq.mpr c19
      have c19b1 : ((wrap64 (rd l1 0)) != (Go.bits .or .i64 a0_0 128)) = false := bne_eq_false_iff_eq.mpr c19
      clear c19
      by_cases c20 : 1 < (l1.length : Int)
      ·rw [if_pos c20] at H
       have c20b0 : decide (1 < (l1.length : Int)) = true := decide_eq_true c20
       have c20b1 : decide (1 < l1.length) = true := decide_eq_true (by omega)
       clear c20
       by_cases c21 : (wrap64 (rd l1 1)) = 0
       ·rw [if_pos c21] at H
        have c21b0 : ((wrap64 (rd l1 1)) == 0) = true := beq_iff_eq.mpr c21
        have c21b1 : ((wrap64 (rd l1 1)) != 0) = false := bne_eq_false_iff_eq.mpr c21
        clear c21
        simp only [Option.some.injEq, Prod.mk.injEq] at H
        obtain ⟨rfl, rfl, rfl⟩ := H
        try go_wp2
        have n0_ := Aside0.mk (blk_drew BK357.out)
        have n1_ := Aside0.mk (blk_drew BK358.out)
        have n2_ := Aside0.mk (blk_drew BK360.out)
        have n3_ := Aside0.mk (below_drew1 HB.out)
        clear BK357
        clear BK358
        clear BK360
        clear HB
        have BK357 := n0_
        have BK358 := n1_
        have BK360 := n2_
        have HB := n3_
        clear n0_ n1_ n2_ n3_
        have p361 : 0 ≤ (0 : Int) := (by omega)
        have q361 : 0 < (l1.length : Int) := of_decide_eq_true (by first | (with_reducible assumption) | assumption)
        obtain ⟨ad361, e361, hx361_0⟩ := Kd.at_int HR1.out 0 p361 q361
        have hw361_0 := hx361_0
        (try rw [show ((0 : Int)).toNat = 0 from rfl] at hw361_0)
        (try rw [show 0 * 1 = 0 from rfl] at hw361_0)
        (try rw [Addr.add_zero'] at hw361_0)
        cases e361
        have qi361 : (0 < l1.length) = True := eq_true (by omega)
        (try rw [show ((0 : Int)).toNat = 0 from rfl] at hx361_0)
        (try rw [Addr.add_zero'] at hx361_0)
        replace hx361_0 := (HB.out.cell (World.block_lt_of_cell? w _ hx361_0)).trans hx361_0
        replace p361 := eq_true p361
        replace q361 := eq_true q361
        refine start_ (n := 9) (S := fun w' => w'.cell? ⟨gb357, 0, none⟩ = some (.int .i64 a0_0) ∧ w'.cell? ⟨gb357, 1, none⟩ = some (.int .i64 a0_1) ∧ w'.cell? ⟨gb357, 2, none⟩ = some (.int .i64 a0_2) ∧ w'.cell? ⟨gb357, 3, none⟩ = some (.slice A0_3 l0_3.length c0_3) ∧ w'.cell? ⟨gb357, 4, none⟩ = some (.int .i64 a0_4) ∧ w'.cell? ⟨gb357, 5, none⟩ = some (.int .i64 a0_5) ∧ w'.cell? ⟨gb357, 6, none⟩ = some (.int .i64 a0_6) ∧ w'.cell? ad361 = some (.int .u8 (rd l1 0))) (ds := []) #[false, false, false, false, false, false, false, false, false] (by kernel_rfl) rfl rfl ⟨(blk_cell BK357.out 0).trans rfl, (blk_cell BK357.out 1).trans rfl, (blk_cell BK357.out 2).trans rfl, (blk_cell BK357.out 3).trans rfl, (blk_cell BK357.out 4).trans rfl, (blk_cell BK357.out 5).trans rfl, (blk_cell BK357.out 6).trans rfl, ((HB.out.cell (World.block_lt_of_cell? w _ hw361_0)).trans hw361_0)⟩ (fun hHeld => ?_); refine with_tabW pdu_AnswerParse.tab7 pdu_AnswerParse.bits7 (fun HT_ HW_ => ?_)
        generalize w11.drew = w22 at BK357 BK358 BK360 HB hx361_0 hHeld ⊢
        refine pure_ (i := 0) (N := some 22) (v := ?_) (a' := ?_) #[true, false, false, false, false, false, false, false, false] rfl rfl (any_of HT_.out (by kernel_rfl)) (fun _ _ _ h => h) (Or.inl ⟨by rfl, ?_⟩) ?_ ?_
        rotate_left
        ·intro w'
         go_simp
         with_reducible rfl
        rotate_left
        ·simp only [Act.put, List.setIfInBounds_toArray, List.set_cons_zero, List.set_cons_succ, i64_w, i32_w]
         rfl
        refine pure_ (i := 1) (N := some 23) (v := ?_) (a' := ?_) #[true, true, false, false, false, false, false, false, false] rfl rfl (any_of HT_.out (by kernel_rfl)) (fun _ _ _ h => h) (Or.inl ⟨by rfl, ?_⟩) ?_ ?_
        rotate_left
        ·intro w'
         go_simp
         with_reducible rfl
        rotate_left
        ·simp only [Act.put, List.setIfInBounds_toArray, List.set_cons_zero, List.set_cons_succ, i64_w, i32_w]
         rfl
        refine pure_ (i := 4) (N := some 26) (v := ?_) (a' := ?_) #[true, true, false, false, true, false, false, false, false] rfl rfl (any_of HT_.out (by kernel_rfl)) (fun _ _ _ h => h) (Or.inl ⟨by rfl, ?_⟩) ?_ ?_
        rotate_left
        ·intro w'
         go_simp
         with_reducible rfl
        rotate_left
        ·simp only [Act.put, List.setIfInBounds_toArray, List.set_cons_zero, List.set_cons_succ, i64_w, i32_w]
         rfl
        refine take_ (i := 2) (N := some 24) (v := ?_) (a' := ?_) #[true, true, true, false, true, false, false, false, false] rfl rfl (take_ofW HT_.out HW_.out (by kernel_rfl)) (fun _ _ _ h => h) (Or.inl ⟨by rfl, ?_⟩) hHeld ?_ ?_
        rotate_left
        ·rintro w' ⟨s0, s1, s2, s3, s4, s5, s6, s7⟩
         go_simp
         with_reducible rfl
        rotate_left
        ·simp only [Act.put, List.setIfInBounds_toArray, List.set_cons_zero, List.set_cons_succ, i64_w, i32_w]
         rfl
        refine pure_ (i := 3) (N := some 25) (v := ?_) (a' := ?_) #[true, true, true, true, true, false, false, false, false] rfl rfl (any_of HT_.out (by kernel_rfl)) (fun _ _ _ h => h) (Or.inl ⟨by rfl, ?_⟩) ?_ ?_
        rotate_left
        ·intro w'
         go_simp
         with_reducible rfl
        rotate_left
        ·simp only [Act.put, List.setIfInBounds_toArray, List.set_cons_zero, List.set_cons_succ, i64_w, i32_w]
         rfl
        refine take_ (i := 5) (N := some 27) (v := ?_) (a' := ?_) #[true, true, true, true, true, true, false, false, false] rfl rfl (take_ofW HT_.out HW_.out (by kernel_rfl)) (fun _ _ _ h => h) (Or.inl ⟨by rfl, ?_⟩) hHeld ?_ ?_
        rotate_left
        ·rintro w' ⟨s0, s1, s2, s3, s4, s5, s6, s7⟩
         go_simp
         with_reducible rfl
        rotate_left
        ·simp only [Act.put, List.setIfInBounds_toArray, List.set_cons_zero, List.set_cons_succ, i64_w, i32_w]
         rfl
        refine pure_ (i := 6) (N := some 28) (v := ?_) (a' := ?_) #[true, true, true, true, true, true, true, false, false] rfl rfl (any_of HT_.out (by kernel_rfl)) (fun _ _ _ h => h) (Or.inl ⟨by rfl, ?_⟩) ?_ ?_
        rotate_left
        ·intro w'
         go_simp
         with_reducible rfl
        rotate_left
        ·simp only [Act.put, List.setIfInBounds_toArray, List.set_cons_zero, List.set_cons_succ, i64_w, i32_w]
         rfl
        refine pure_ (i := 7) (N := some 29) (v := ?_) (a' := ?_) #[true, true, true, true, true, true, true, true, false] rfl rfl (any_of HT_.out (by kernel_rfl)) (fun _ _ _ h => h) (Or.inl ⟨by rfl, ?_⟩) ?_ ?_
        rotate_left
        ·intro w'
         go_simp
         with_reducible rfl
        rotate_left
        ·simp only [Act.put, List.setIfInBounds_toArray, List.set_cons_zero, List.set_cons_succ, i64_w, i32_w]
         rfl
        refine pure_ (i := 8) (N := some 21) (v := ?_) (a' := ?_) #[true, true, true, true, true, true, true, true, true] rfl rfl (any_of HT_.out (by kernel_rfl)) (fun _ _ _ h => h) (Or.inl ⟨by rfl, ?_⟩) ?_ ?_
        rotate_left
        ·intro w'
         go_simp
         with_reducible rfl
        rotate_left
        ·simp only [Act.put, List.setIfInBounds_toArray, List.set_cons_zero, List.set_cons_succ, i64_w, i32_w]
         rfl
        refine done_ (done_of HT_.out (by kernel_rfl)) ?_
        have p362 : 0 ≤ (1 : Int) := (by omega)
        have q362 : 1 < (l1.length : Int) := of_decide_eq_true (by first | (with_reducible assumption) | assumption)
        obtain ⟨ad362, e362, hx362_0⟩ := Kd.at_int HR1.out 1 p362 q362
        obtain rfl : ad361 = ad362 := (by injection e362)
        (try simp only [show (1 : Int).toNat = 1 from rfl, Nat.reduceMul, Nat.reduceEqDiff, Go.Addr.add, ↓reduceIte] at hx362_0)
        have qi362 : (1 < l1.length) = True := eq_true (by omega)
        (try rw [show ((1 : Int)).toNat = 1 from rfl] at hx362_0)
        replace hx362_0 := (HB.out.cell (World.block_lt_of_cell? w _ hx362_0)).trans hx362_0
        replace p362 := eq_true p362
        replace q362 := eq_true q362
        have hnb23 := NB360_357.out
        have hnc23 := NB357_360.out
        have hnb24 := NB360_358.out
        have hnc24 := NB358_360.out
        refine cz2_ BK360.out ?_; intro hcz25_0 hcz25_1 hfz25_0 hfz25_1
        have hnb26 := NB358_357.out
        have hnc26 := NB357_358.out
        refine cz2_ BK358.out ?_; intro hcz27_0 hcz27_1 hfz27_0 hfz27_1
        try go_wp2
        refine bodyPost_ret (results_ct rfl _ _ gb358 30 #[.slice none 0 0, .int .i64 (wrap64 (rd l1 1))] (0, 0) _ rfl (by (with_reducible repeat (first | refine blk_drewN ?_ _ | refine blk_drew ?_ | refine blk_alloc ?_ _)); refine blk_put (cs := #[.slice none 0 0, .int .i64 0]) ?_ 1 _ rfl; (with_reducible repeat (first | refine blk_drewN ?_ _ | refine blk_drew ?_ | refine blk_alloc ?_ _)); refine blk_put (cs := #[.slice none 0 0, .int .i64 0]) ?_ 0 _ rfl; (with_reducible repeat (first | refine blk_drewN ?_ _ | refine blk_drew ?_ | refine blk_alloc ?_ _)); refine blk_far ?_ NB358_360.out _; (with_reducible repeat (first | refine blk_drewN ?_ _ | refine blk_drew ?_ | refine blk_alloc ?_ _)); exact BK358.out) Try.underlying30 rfl (by kernel_rfl)) rfl ?_
        exact ⟨_, er_, by first | exact Kd.R_nil _ _ _ _ _ | exact Kd.N_nil _ _ _ _ _ | exact Kd.V_nil _ _ _ _ _ | exact Kd.Q_nil _ _ _ _ _ | exact Kd.S_nil _ _ _ _ _, bl3_ HB GE357 GE358 GE360⟩
       ·rw [if_neg c21] at H
        have c21b0 : ((wrap64 (rd l1 1)) == 0) = false := beq_eq_false_iff_ne.mpr c21
        have c21b1 : ((wrap64 (rd l1 1)) != 0) = true := bne_iff_ne.mpr c21
        have H' := Aside0.mk H
        clear H
        try go_wp2
        have n0_ := Aside0.mk (blk_drew BK357.out)
        have n1_ := Aside0.mk (blk_drew BK358.out)
        have n2_ := Aside0.mk (blk_drew BK360.out)
        have n3_ := Aside0.mk (below_drew1 HB.out)
        clear BK357
        clear BK358
        clear BK360
        clear HB
        have BK357 := n0_
        have BK358 := n1_
        have BK360 := n2_
        have HB := n3_
        clear n0_ n1_ n2_ n3_
        have p361 : 0 ≤ (0 : Int) := (by omega)
        have q361 : 0 < (l1.length : Int) := of_decide_eq_true (by first | (with_reducible assumption) | assumption)
        obtain ⟨ad361, e361, hx361_0⟩ := Kd.at_int HR1.out 0 p361 q361
        have hw361_0 := hx361_0
        (try rw [show ((0 : Int)).toNat = 0 from rfl] at hw361_0)
        (try rw [show 0 * 1 = 0 from rfl] at hw361_0)
        (try rw [Addr.add_zero'] at hw361_0)
        cases e361
        have qi361 : (0 < l1.length) = True := eq_true (by omega)
        (try rw [show ((0 : Int)).toNat = 0 from rfl] at hx361_0)
        (try rw [Addr.add_zero'] at hx361_0)
        replace hx361_0 := (HB.out.cell (World.block_lt_of_cell? w _ hx361_0)).trans hx361_0
        replace p361 := eq_true p361
        replace q361 := eq_true q361
        refine start_ (n := 9) (S := fun w' => w'.cell? ⟨gb357, 0, none⟩ = some (.int .i64 a0_0) ∧ w'.cell? ⟨gb357, 1, none⟩ = some (.int .i64 a0_1) ∧ w'.cell? ⟨gb357, 2, none⟩ = some (.int .i64 a0_2) ∧ w'.cell? ⟨gb357, 3, none⟩ = some (.slice A0_3 l0_3.length c0_3) ∧ w'.cell? ⟨gb357, 4, none⟩ = some (.int .i64 a0_4) ∧ w'.cell? ⟨gb357, 5, none⟩ = some (.int .i64 a0_5) ∧ w'.cell? ⟨gb357, 6, none⟩ = some (.int .i64 a0_6) ∧ w'.cell? ad361 = some (.int .u8 (rd l1 0))) (ds := []) #[false, false, false, false, false, false, false, false, false] (by kernel_rfl) rfl rfl ⟨(blk_cell BK357.out 0).trans rfl, (blk_cell BK357.out 1).trans rfl, (blk_cell BK357.out 2).trans rfl, (blk_cell BK357.out 3).trans rfl, (blk_cell BK357.out 4).trans rfl, (blk_cell BK357.out 5).trans rfl, (blk_cell BK357.out 6).trans rfl, ((HB.out.cell (World.block_lt_of_cell? w _ hw361_0)).trans hw361_0)⟩ (fun hHeld => ?_); refine with_tabW pdu_AnswerParse.tab7 pdu_AnswerParse.bits7 (fun HT_ HW_ => ?_)
        generalize w11.drew = w28 at BK357 BK358 BK360 HB hx361_0 hHeld ⊢
        refine pure_ (i := 0) (N := some 22) (v := ?_) (a' := ?_) #[true, false, false, false, false, false, false, false, false] rfl rfl (any_of HT_.out (by kernel_rfl)) (fun _ _ _ h => h) (Or.inl ⟨by rfl, ?_⟩) ?_ ?_
        rotate_left
        ·intro w'
         go_simp
         with_reducible rfl
        rotate_left
        ·simp only [Act.put, List.setIfInBounds_toArray, List.set_cons_zero, List.set_cons_succ, i64_w, i32_w]
         rfl
        refine pure_ (i := 1) (N := some 23) (v := ?_) (a' := ?_) #[true, true, false, false, false, false, false, false, false] rfl rfl (any_of HT_.out (by kernel_rfl)) (fun _ _ _ h => h) (Or.inl ⟨by rfl, ?_⟩) ?_ ?_
        rotate_left
        ·intro w'
         go_simp
         with_reducible rfl
        rotate_left
        ·simp only [Act.put, List.setIfInBounds_toArray, List.set_cons_zero, List.set_cons_succ, i64_w, i32_w]
         rfl
        refine pure_ (i := 4) (N := some 26) (v := ?_) (a' := ?_) #[true, true, false, false, true, false, false, false, false] rfl rfl (any_of HT_.out (by kernel_rfl)) (fun _ _ _ h => h) (Or.inl ⟨by rfl, ?_⟩) ?_ ?_
        rotate_left
        ·intro w'
         go_simp
         with_reducible rfl
        rotate_left
        ·simp only [Act.put, List.setIfInBounds_toArray, List.set_cons_zero, List.set_cons_succ, i64_w, i32_w]
         rfl
        refine take_ (i := 2) (N := some 24) (v := ?_) (a' := ?_) #[true, true, true, false, true, false, false, false, false] rfl rfl (take_ofW HT_.out HW_.out (by kernel_rfl)) (fun _ _ _ h => h) (Or.inl ⟨by rfl, ?_⟩) hHeld ?_ ?_
        rotate_left
        ·rintro w' ⟨s0, s1, s2, s3, s4, s5, s6, s7⟩
         go_simp
         with_reducible rfl
        rotate_left
        ·simp only [Act.put, List.setIfInBounds_toArray, List.set_cons_zero, List.set_cons_succ, i64_w, i32_w]
         rfl
        refine pure_ (i := 3) (N := some 25) (v := ?_) (a' := ?_) #[true, true, true, true, true, false, false, false, false] rfl rfl (any_of HT_.out (by kernel_rfl)) (fun _ _ _ h => h) (Or.inl ⟨by rfl, ?_⟩) ?_ ?_
        rotate_left
        ·intro w'
         go_simp
         with_reducible rfl
        rotate_left
        ·simp only [Act.put, List.setIfInBounds_toArray, List.set_cons_zero, List.set_cons_succ, i64_w, i32_w]
         rfl
        refine take_ (i := 5) (N := some 27) (v := ?_) (a' := ?_) #[true, true, true, true, true, true, false, false, false] rfl rfl (take_ofW HT_.out HW_.out (by kernel_rfl)) (fun _ _ _ h => h) (Or.inl ⟨by rfl, ?_⟩) hHeld ?_ ?_
        rotate_left
        ·rintro w' ⟨s0, s1, s2, s3, s4, s5, s6, s7⟩
         go_simp
         with_reducible rfl
        rotate_left
        ·simp only [Act.put, List.setIfInBounds_toArray, List.set_cons_zero, List.set_cons_succ, i64_w, i32_w]
         rfl
        refine pure_ (i := 6) (N := some 28) (v := ?_) (a' := ?_) #[true, true, true, true, true, true, true, false, false] rfl rfl (any_of HT_.out (by kernel_rfl)) (fun _ _ _ h => h) (Or.inl ⟨by rfl, ?_⟩) ?_ ?_
        rotate_left
        ·intro w'
         go_simp
         with_reducible rfl
        rotate_left
        ·simp only [Act.put, List.setIfInBounds_toArray, List.set_cons_zero, List.set_cons_succ, i64_w, i32_w]
         rfl
        refine pure_ (i := 7) (N := some 29) (v := ?_) (a' := ?_) #[true, true, true, true, true, true, true, true, false] rfl rfl (any_of HT_.out (by kernel_rfl)) (fun _ _ _ h => h) (Or.inl ⟨by rfl, ?_⟩) ?_ ?_
        rotate_left
        ·intro w'
         go_simp
         with_reducible rfl
        rotate_left
        ·simp only [Act.put, List.setIfInBounds_toArray, List.set_cons_zero, List.set_cons_succ, i64_w, i32_w]
         rfl
        refine pure_ (i := 8) (N := some 21) (v := ?_) (a' := ?_) #[true, true, true, true, true, true, true, true, true] rfl rfl (any_of HT_.out (by kernel_rfl)) (fun _ _ _ h => h) (Or.inl ⟨by rfl, ?_⟩) ?_ ?_
        rotate_left
        ·intro w'
         go_simp
         with_reducible rfl
        rotate_left
        ·simp only [Act.put, List.setIfInBounds_toArray, List.set_cons_zero, List.set_cons_succ, i64_w, i32_w]
         rfl
        refine done_ (done_of HT_.out (by kernel_rfl)) ?_
        have p362 : 0 ≤ (1 : Int) := (by omega)
        have q362 : 1 < (l1.length : Int) := of_decide_eq_true (by first | (with_reducible assumption) | assumption)
        obtain ⟨ad362, e362, hx362_0⟩ := Kd.at_int HR1.out 1 p362 q362
        obtain rfl : ad361 = ad362 := (by injection e362)
        (try simp only [show (1 : Int).toNat = 1 from rfl, Nat.reduceMul, Nat.reduceEqDiff, Go.Addr.add, ↓reduceIte] at hx362_0)
        have qi362 : (1 < l1.length) = True := eq_true (by omega)
        (try rw [show ((1 : Int)).toNat = 1 from rfl] at hx362_0)
        replace hx362_0 := (HB.out.cell (World.block_lt_of_cell? w _ hx362_0)).trans hx362_0
        replace p362 := eq_true p362
        replace q362 := eq_true q362
        have hnb29 := NB360_357.out
        have hnc29 := NB357_360.out
        have hnb30 := NB360_358.out
        have hnc30 := NB358_360.out
        refine cz2_ BK360.out ?_; intro hcz31_0 hcz31_1 hfz31_0 hfz31_1
        try go_wp2
        go_meet
        case rel => exact ⟨_, (0), (([] : List Int)), (wrap64 (rd l1 1)), (.slice none 0 0), H', ⟨by first | omega | exact Nat.le_refl _⟩, ⟨by first | exact Kd.R_nil _ _ _ _ _ | exact Kd.N_nil _ _ _ _ _ | exact Kd.V_nil _ _ _ _ _ | exact Kd.Q_nil _ _ _ _ _ | exact Kd.S_nil _ _ _ _ _⟩, ⟨by (with_reducible repeat (first | refine blk_drewN ?_ _ | refine blk_drew ?_ | refine blk_alloc ?_ _)); refine blk_far ?_ NB357_360.out _; (with_reducible repeat (first | refine blk_drewN ?_ _ | refine blk_drew ?_ | refine blk_alloc ?_ _)); exact BK357.out⟩, ⟨by (with_reducible repeat (first | refine blk_drewN ?_ _ | refine blk_drew ?_ | refine blk_alloc ?_ _)); refine blk_far ?_ NB358_360.out _; (with_reducible repeat (first | refine blk_drewN ?_ _ | refine blk_drew ?_ | refine blk_alloc ?_ _)); exact BK358.out⟩, ⟨by (with_reducible repeat (first | refine blk_drewN ?_ _ | refine blk_drew ?_ | refine blk_alloc ?_ _)); refine blk_put (cs := #[.slice none 0 0, .int .i64 0]) ?_ 1 _ rfl; (with_reducible repeat (first | refine blk_drewN ?_ _ | refine blk_drew ?_ | refine blk_alloc ?_ _)); exact BK360.out⟩, ⟨bl3_ HB GE357 GE358 GE360⟩⟩
      ·rw [if_neg c20] at H
       exact absurd H (by simp)
     ·rw [if_neg c19] at H
      have c19b0 : ((wrap64 (rd l1 0)) == (Go.bits .or .i64 a0_0 128)) = false := beq_eq_false_iff_ne.mpr c19
      have c19b1 : ((wrap64 (rd l1 0)) != (Go.bits .or .i64 a0_0 128)) = true := bne_iff_ne.mpr c19
      have HC32 := Aside0.mk H
      clear H
      try go_wp2
      have n0_ := Aside0.mk (blk_drew BK357.out)
      have n1_ := Aside0.mk (blk_drew BK358.out)
      have n2_ := Aside0.mk (blk_drew BK360.out)
      have n3_ := Aside0.mk (below_drew1 HB.out)
      clear BK357
      clear BK358
      clear BK360
      clear HB
      have BK357 := n0_
      have BK358 := n1_
      have BK360 := n2_
      have HB := n3_
      clear n0_ n1_ n2_ n3_
      have p361 : 0 ≤ (0 : Int) := (by omega)
      have q361 : 0 < (l1.length : Int) := of_decide_eq_true (by first | (with_reducible assumption) | assumption)
      obtain ⟨ad361, e361, hx361_0⟩ := Kd.at_int HR1.out 0 p361 q361
      have hw361_0 := hx361_0
      (try rw [show ((0 : Int)).toNat = 0 from rfl] at hw361_0)
      (try rw [show 0 * 1 = 0 from rfl] at hw361_0)
      (try rw [Addr.add_zero'] at hw361_0)
      cases e361
      have qi361 : (0 < l1.length) = True := eq_true (by omega)
      (try rw [show ((0 : Int)).toNat = 0 from rfl] at hx361_0)
      (try rw [Addr.add_zero'] at hx361_0)
      replace hx361_0 := (HB.out.cell (World.block_lt_of_cell? w _ hx361_0)).trans hx361_0
      replace p361 := eq_true p361
      replace q361 := eq_true q361
      refine start_ (n := 9) (S := fun w' => w'.cell? ⟨gb357, 0, none⟩ = some (.int .i64 a0_0) ∧ w'.cell? ⟨gb357, 1, none⟩ = some (.int .i64 a0_1) ∧ w'.cell? ⟨gb357, 2, none⟩ = some (.int .i64 a0_2) ∧ w'.cell? ⟨gb357, 3, none⟩ = some (.slice A0_3 l0_3.length c0_3) ∧ w'.cell? ⟨gb357, 4, none⟩ = some (.int .i64 a0_4) ∧ w'.cell? ⟨gb357, 5, none⟩ = some (.int .i64 a0_5) ∧ w'.cell? ⟨gb357, 6, none⟩ = some (.int .i64 a0_6) ∧ w'.cell? ad361 = some (.int .u8 (rd l1 0))) (ds := []) #[false, false, false, false, false, false, false, false, false] (by kernel_rfl) rfl rfl ⟨(blk_cell BK357.out 0).trans rfl, (blk_cell BK357.out 1).trans rfl, (blk_cell BK357.out 2).trans rfl, (blk_cell BK357.out 3).trans rfl, (blk_cell BK357.out 4).trans rfl, (blk_cell BK357.out 5).trans rfl, (blk_cell BK357.out 6).trans rfl, ((HB.out.cell (World.block_lt_of_cell? w _ hw361_0)).trans hw361_0)⟩ (fun hHeld => ?_); refine with_tabW pdu_AnswerParse.tab7 pdu_AnswerParse.bits7 (fun HT_ HW_ => ?_)
      generalize w11.drew = w33 at BK357 BK358 BK360 HB hx361_0 hHeld ⊢
      refine pure_ (i := 0) (N := some 22) (v := ?_) (a' := ?_) #[true, false, false, false, false, false, false, false, false] rfl rfl (any_of HT_.out (by kernel_rfl)) (fun _ _ _ h => h) (Or.inl ⟨by rfl, ?_⟩) ?_ ?_
      rotate_left
      ·intro w'
       go_simp
       with_reducible rfl
      rotate_left
      ·simp only [Act.put, List.setIfInBounds_toArray, List.set_cons_zero, List.set_cons_succ, i64_w, i32_w]
       rfl
      refine pure_ (i := 1) (N := some 23) (v := ?_) (a' := ?_) #[true, true, false, false, false, false, false, false, false] rfl rfl (any_of HT_.out (by kernel_rfl)) (fun _ _ _ h => h) (Or.inl ⟨by rfl, ?_⟩) ?_ ?_
      rotate_left
      ·intro w'
       go_simp
       with_reducible rfl
      rotate_left
      ·simp only [Act.put, List.setIfInBounds_toArray, List.set_cons_zero, List.set_cons_succ, i64_w, i32_w]
       rfl
      refine pure_ (i := 4) (N := some 26) (v := ?_) (a' := ?_) #[true, true, false, false, true, false, false, false, false] rfl rfl (any_of HT_.out (by kernel_rfl)) (fun _ _ _ h => h) (Or.inl ⟨by rfl, ?_⟩) ?_ ?_
      rotate_left
      ·intro w'
       go_simp
       with_reducible rfl
      rotate_left
      ·simp only [Act.put, List.setIfInBounds_toArray, List.set_cons_zero, List.set_cons_succ, i64_w, i32_w]
       rfl
      refine take_ (i := 2) (N := some 24) (v := ?_) (a' := ?_) #[true, true, true, false, true, false, false, false, false] rfl rfl (take_ofW HT_.out HW_.out (by kernel_rfl)) (fun _ _ _ h => h) (Or.inl ⟨by rfl, ?_⟩) hHeld ?_ ?_
      rotate_left
      ·rintro w' ⟨s0, s1, s2, s3, s4, s5, s6, s7⟩
       go_simp
       with_reducible rfl
      rotate_left
      ·simp only [Act.put, List.setIfInBounds_toArray, List.set_cons_zero, List.set_cons_succ, i64_w, i32_w]
       rfl
      refine pure_ (i := 3) (N := some 25) (v := ?_) (a' := ?_) #[true, true, true, true, true, false, false, false, false] rfl rfl (any_of HT_.out (by kernel_rfl)) (fun _ _ _ h => h) (Or.inl ⟨by rfl, ?_⟩) ?_ ?_
      rotate_left
      ·intro w'
       go_simp
       with_reducible rfl
      rotate_left
      ·simp only [Act.put, List.setIfInBounds_toArray, List.set_cons_zero, List.set_cons_succ, i64_w, i32_w]
       rfl
      refine take_ (i := 5) (N := some 27) (v := ?_) (a' := ?_) #[true, true, true, true, true, true, false, false, false] rfl rfl (take_ofW HT_.out HW_.out (by kernel_rfl)) (fun _ _ _ h => h) (Or.inl ⟨by rfl, ?_⟩) hHeld ?_ ?_
      rotate_left
      ·rintro w' ⟨s0, s1, s2, s3, s4, s5, s6, s7⟩
       go_simp
       with_reducible rfl
      rotate_left
      ·simp only [Act.put, List.setIfInBounds_toArray, List.set_cons_zero, List.set_cons_succ, i64_w, i32_w]
       rfl
      refine pure_ (i := 6) (N := some 28) (v := ?_) (a' := ?_) #[true, true, true, true, true, true, true, false, false] rfl rfl (any_of HT_.out (by kernel_rfl)) (fun _ _ _ h => h) (Or.inl ⟨by rfl, ?_⟩) ?_ ?_
      rotate_left
      ·intro w'
       go_simp
       with_reducible rfl
      rotate_left
      ·simp only [Act.put, List.setIfInBounds_toArray, List.set_cons_zero, List.set_cons_succ, i64_w, i32_w]
       rfl
      refine pure_ (i := 7) (N := some 29) (v := ?_) (a' := ?_) #[true, true, true, true, true, true, true, true, false] rfl rfl (any_of HT_.out (by kernel_rfl)) (fun _ _ _ h => h) (Or.inl ⟨by rfl, ?_⟩) ?_ ?_
      rotate_left
      ·intro w'
       go_simp
       with_reducible rfl
      rotate_left
      ·simp only [Act.put, List.setIfInBounds_toArray, List.set_cons_zero, List.set_cons_succ, i64_w, i32_w]
       rfl
      refine pure_ (i := 8) (N := some 21) (v := ?_) (a' := ?_) #[true, true, true, true, true, true, true, true, true] rfl rfl (any_of HT_.out (by kernel_rfl)) (fun _ _ _ h => h) (Or.inl ⟨by rfl, ?_⟩) ?_ ?_
      rotate_left
      ·intro w'
       go_simp
       with_reducible rfl
      rotate_left
      ·simp only [Act.put, List.setIfInBounds_toArray, List.set_cons_zero, List.set_cons_succ, i64_w, i32_w]
       rfl
      refine done_ (done_of HT_.out (by kernel_rfl)) ?_
      go_upto_region 11 with (fail)
      go_cut [39] (fun v39 wc => ∃ (kq : Nat) (x39_31 : Bool), v39 = .bool x39_31 ∧ Aside0 (pdu_AnswerParse.j0 kq l1 x39_31 a0_0 a0_1 a0_2 l0_3 a0_4 a0_5 a0_6 0 = some (r1, r2, r3)) ∧ Aside0 (kq ≤ k) ∧ Aside0 (wc.heap[gb357]? = some (.cells #[.int .i64 a0_0, .int .i64 a0_1, .int .i64 a0_2, (.slice A0_3 l0_3.length c0_3), .int .i64 a0_4, .int .i64 a0_5, .int .i64 a0_6] 24 (0, 0))) ∧ Aside0 (wc.heap[gb358]? = some (.cells #[(.slice none 0 0), .int .i64 0] 30 (0, 0))) ∧ Aside0 (wc.heap[gb360]? = some (.cells #[(.slice none 0 0), .int .i64 0] 30 (0, 0))) ∧ Aside0 (Below w.heap.size w wc))
      case first =>
       have H := HC32.out
       clear HC32
       by_cases c34 : a0_0 = 1
       ·rw [if_pos c34] at H
        have c34b0 : (a0_0 == 1) = true := beq_iff_eq.mpr c34
        have c34b1 : (a0_0 != 1) = false := bne_eq_false_iff_eq.mpr c34
        clear c34
        (first | rw [c34b0] | (simp only [i64_w, i32_w]; rw [c34b0]) | skip)
        have H' := Aside0.mk H
        clear H
        have hnb35 := NB357_358.out
        have hnc35 := NB358_357.out
        have hnb36 := NB357_360.out
        have hnc36 := NB360_357.out
        refine cz7_ BK357.out ?_; intro hcz37_0 hcz37_1 hcz37_2 hcz37_3 hcz37_4 hcz37_5 hcz37_6 hfz37_0 hfz37_1 hfz37_2 hfz37_3 hfz37_4 hfz37_5 hfz37_6
        go_wp2
        go_meet
        case rel => exact ⟨_, (true), (by first | rfl | (simp; done) | (simp [*]; done)), H', ⟨by first | omega | exact Nat.le_refl _⟩, ⟨bk_ BK357⟩, ⟨bk_ BK358⟩, ⟨bk_ BK360⟩, ⟨bl3_ HB GE357 GE358 GE360⟩⟩
       ·rw [if_neg c34] at H
        have c34b0 : (a0_0 == 1) = false := beq_eq_false_iff_ne.mpr c34
        have c34b1 : (a0_0 != 1) = true := bne_iff_ne.mpr c34
        (first | rw [c34b0] | (simp only [i64_w, i32_w]; rw [c34b0]) | skip)
        have H' := Aside0.mk H
        clear H
        have hnb38 := NB357_358.out
        have hnc38 := NB358_357.out
        have hnb39 := NB357_360.out
        have hnc39 := NB360_357.out
        refine cz7_ BK357.out ?_; intro hcz40_0 hcz40_1 hcz40_2 hcz40_3 hcz40_4 hcz40_5 hcz40_6 hfz40_0 hfz40_1 hfz40_2 hfz40_3 hfz40_4 hfz40_5 hfz40_6
        go_wp2
        go_meet
        case rel => exact ⟨_, ((a0_0 == 2)), (by first | rfl | (simp; done) | (simp [*]; done)), H', ⟨by first | omega | exact Nat.le_refl _⟩, ⟨bk_ BK357⟩, ⟨bk_ BK358⟩, ⟨bk_ BK360⟩, ⟨bl3_ HB GE357 GE358 GE360⟩⟩
      case rest =>
       clear HC32
       try clear c1
       try clear c2
       try clear p2
       try clear c3
       try clear p3
       try clear q3
       try clear hx3
       try clear qi3
       try clear c4
       try clear c4b0
       try clear c4b1
       try clear p6
       try clear c8
       try clear c12
       try clear c12b0
       try clear c12b1
       try clear c13
       try clear c14
       try clear c16
       try clear c18
       try clear c18b0
       try clear c18b1
       try clear c19
       try clear c19b0
       try clear c19b1
       try clear c20
       try clear c20b0
       try clear c20b1
       try clear c21
       try clear c21b0
       try clear c21b1
       try clear c23
       try clear c24
       try clear c26
       try clear c29
       try clear c30
       try clear c34
       try clear c34b0
       try clear c34b1
       try clear c35
       try clear c36
       try clear p36
       try clear q36
       try clear hx36
       try clear qi36
       try clear c38
       try clear c39
       try clear hcz15_0 hcz15_1
       try clear hcz17_0 hcz17_1
       try clear hcz25_0 hcz25_1
       try clear hcz27_0 hcz27_1
       try clear hcz31_0 hcz31_1
       try clear hcz37_0 hcz37_1 hcz37_2 hcz37_3 hcz37_4 hcz37_5 hcz37_6
       try clear hcz40_0 hcz40_1 hcz40_2 hcz40_3 hcz40_4 hcz40_5 hcz40_6
       try clear hcz9_0 hcz9_1 hcz9_2 hcz9_3 hcz9_4 hcz9_5 hcz9_6
       try clear hfz15_0 hfz15_1
       try clear hfz17_0 hfz17_1
       try clear hfz25_0 hfz25_1
       try clear hfz27_0 hfz27_1
       try clear hfz31_0 hfz31_1
       try clear hfz37_0 hfz37_1 hfz37_2 hfz37_3 hfz37_4 hfz37_5 hfz37_6
       try clear hfz40_0 hfz40_1 hfz40_2 hfz40_3 hfz40_4 hfz40_5 hfz40_6
       try clear hfz9_0 hfz9_1 hfz9_2 hfz9_3 hfz9_4 hfz9_5 hfz9_6
       try clear hx361_0
       try clear hx362_0
       try clear p361
       try clear p362
       try clear q361
       try clear q362
       obtain ⟨kq, x39_31, rfl, HA, HJ31, BK357, BK358, BK360, HB⟩ := hcut
       cases kq with
       | zero => exact absurd HA.out (by simp [pdu_AnswerParse.j0])
       | succ kj31 =>
        have H := HA.out
        clear HA
        simp only [pdu_AnswerParse.j0] at H
        by_cases c41 : x39_31 = true
        ·subst c41
         have H1 : (if 2 ≤ (l1.length : Int) then ((wire_Unpack.f kj31 (l1.drop 2) a0_2).bind fun bt364 => (pdu_AnswerParse.j1 kj31 l1 a0_0 a0_1 a0_2 l0_3 a0_4 a0_5 a0_6 bt364.1 0)) else (none)) = some (r1, r2, r3) := by rw [if_pos rfl] at H; exact H
         clear H
         have H := H1
         clear H1
         by_cases c42 : 2 ≤ (l1.length : Int)
         ·rw [if_pos c42] at H
          have c42b0 := eq_true c42
          have c42b1 : decide (2 ≤ (l1.length : Int)) = true := decide_eq_true c42
          clear c42
          replace H := Option.bind_eq_some_iff.mp H
          obtain ⟨⟨t364, t365⟩, A430, H⟩ := H
          replace H : (pdu_AnswerParse.j1 kj31 l1 a0_0 a0_1 a0_2 l0_3 a0_4 a0_5 a0_6 t364 0) = some (r1, r2, r3) := H
          have A43 := Aside0.mk A430
          clear A430
          have H' := Aside0.mk H
          clear H
          try go_wp2
          have n0_ := Aside0.mk (blk_drew BK357.out)
          have n1_ := Aside0.mk (blk_drew BK358.out)
          have n2_ := Aside0.mk (blk_drew BK360.out)
          have n3_ := Aside0.mk (below_drew1 HB.out)
          clear BK357
          clear BK358
          clear BK360
          clear HB
          have BK357 := n0_
          have BK358 := n1_
          have BK360 := n2_
          have HB := n3_
          clear n0_ n1_ n2_ n3_
          obtain ⟨i045, hi045, _, hsz45, _⟩ := info_parts info5
          obtain ⟨A45, hcut45, hA45, hC45⟩ := print_drop_of (P := Try.prog) (Value.int .u8) 0 58 5 .i64 Try.underlying58 hi045 hsz45 (some ad361) c1 l1 2 (by omega) (of_decide_eq_true (by first | (with_reducible assumption) | assumption)) HC1.out
          have HR363 := Aside0.mk (Kd.C_of_reads (h1 := fun _ => rfl) (hA45 _ (Kd.reads_of_C HR1.out)))
          have HC363 := Aside0.mk hC45
          clear hA45 hC45 hi045 hsz45
          refine start_ (n := 10) (S := fun w' => w'.cell? ⟨gb357, 0, none⟩ = some (.int .i64 a0_0) ∧ w'.cell? ⟨gb357, 1, none⟩ = some (.int .i64 a0_1) ∧ w'.cell? ⟨gb357, 2, none⟩ = some (.int .i64 a0_2) ∧ w'.cell? ⟨gb357, 3, none⟩ = some (.slice A0_3 l0_3.length c0_3) ∧ w'.cell? ⟨gb357, 4, none⟩ = some (.int .i64 a0_4) ∧ w'.cell? ⟨gb357, 5, none⟩ = some (.int .i64 a0_5) ∧ w'.cell? ⟨gb357, 6, none⟩ = some (.int .i64 a0_6)) (ds := []) #[false, false, false, false, false, false, false, false, false, false] (by kernel_rfl) rfl rfl ⟨(blk_cell BK357.out 0).trans rfl, (blk_cell BK357.out 1).trans rfl, (blk_cell BK357.out 2).trans rfl, (blk_cell BK357.out 3).trans rfl, (blk_cell BK357.out 4).trans rfl, (blk_cell BK357.out 5).trans rfl, (blk_cell BK357.out 6).trans rfl⟩ (fun hHeld => ?_); refine with_tabW pdu_AnswerParse.tab12 pdu_AnswerParse.bits12 (fun HT_ HW_ => ?_)
          generalize wc.drew = w44 at BK357 BK358 BK360 HB HR363 hHeld ⊢
          refine pure_ (i := 0) (N := some 49) (v := ?_) (a' := ?_) #[true, false, false, false, false, false, false, false, false, false] rfl rfl (any_of HT_.out (by kernel_rfl)) (fun _ _ _ h => h) (Or.inl ⟨by rfl, ?_⟩) ?_ ?_
          rotate_left
          ·intro w'
           go_simp
           with_reducible rfl
          rotate_left
          ·simp only [Act.put, List.setIfInBounds_toArray, List.set_cons_zero, List.set_cons_succ, i64_w, i32_w]
           rfl
          refine pure_ (i := 1) (N := some 50) (v := ?_) (a' := ?_) #[true, true, false, false, false, false, false, false, false, false] rfl rfl (any_of HT_.out (by kernel_rfl)) (fun _ _ _ h => h) (Or.inl ⟨by rfl, ?_⟩) ?_ ?_
          rotate_left
          ·intro w'
           go_simp
           with_reducible rfl
          rotate_left
          ·simp only [Act.put, List.setIfInBounds_toArray, List.set_cons_zero, List.set_cons_succ, i64_w, i32_w]
           rfl
          refine pure_ (i := 2) (N := some 51) (v := ?_) (a' := ?_) #[true, true, true, false, false, false, false, false, false, false] rfl rfl (any_of HT_.out (by kernel_rfl)) (fun _ _ _ h => h) (Or.inl ⟨by rfl, ?_⟩) ?_ ?_
          rotate_left
          ·intro w'
           go_simp
           with_reducible rfl
          rotate_left
          ·simp only [Act.put, List.setIfInBounds_toArray, List.set_cons_zero, List.set_cons_succ, i64_w, i32_w]
           rfl
          refine take_ (i := 3) (N := some 52) (v := ?_) (a' := ?_) #[true, true, true, true, false, false, false, false, false, false] rfl rfl (take_ofW HT_.out HW_.out (by kernel_rfl)) (fun _ _ _ h => h) (Or.inl ⟨by rfl, ?_⟩) hHeld ?_ ?_
          rotate_left
          ·rintro w' ⟨s0, s1, s2, s3, s4, s5, s6⟩
           go_simp
           with_reducible rfl
          rotate_left
          ·simp only [Act.put, List.setIfInBounds_toArray, List.set_cons_zero, List.set_cons_succ, i64_w, i32_w]
           rfl
          refine one_ (i := 4) (N := some 53) #[true, true, true, true, true, false, false, false, false, false] rfl rfl (one_of HT_.out (by kernel_rfl)) (by decide) (fun K hK => ?_)
          refine goes_ Try.func60 (by kernel_rfl) rfl #[.slice A45 (l1.drop 2).length (c1 - 2), .int .i64 a0_2] (by rfl) rfl rfl (by (try simp only [List.map_toArray, List.map_cons, List.map_nil]); first | done | (rw [show (l1.drop 2).length = (l1.length - 2) from List.length_drop] <;> rfl) | rfl | (simp only [List.length_drop, List.length_take]; rfl)) ?_
          with_reducible refine (wire_Unpack.calls kj31 _ _ (l1.drop 2) a0_2 t364 t365 _ ?side1 ?side2 A43.out).mono ?_
          (case side1 => exact sc_ (Kd.C_below HR363.out HB.out))
          (case side2 => exact HC363.out)
          rintro e w46 ⟨v366, rfl, ho0, hb⟩
          refine ⟨_, rfl, ?_⟩
          have n0_ := Aside0.mk (Kd.R_lower ho0 (below_size (bl3_ HB GE357 GE358 GE360)))
          have n1_ := Aside0.mk (blk_below (g := gb357) (bk_ BK357) hb)
          have n2_ := Aside0.mk (blk_below (g := gb358) (bk_ BK358) hb)
          have n3_ := Aside0.mk (blk_below (g := gb360) (bk_ BK360) hb)
          have n4_ := Aside0.mk (below_step (bl3_ HB GE357 GE358 GE360) hb)
          clear BK357
          clear BK358
          clear BK360
          clear HB
          have HO367 := n0_
          have BK357 := n1_
          have BK358 := n2_
          have BK360 := n3_
          have HB := n4_
          clear n0_ n1_ n2_ n3_ n4_
          (try clear hb)
          (try clear hb2)
          (try clear hk)
          (try clear hi)
          (try clear ho0)
          obtain ⟨Ao47, co47, eo47⟩ := Kd.R_slice HO367.out
          (first | subst eo47 | (injection eo47 with f1_ f2_ f3_; have f4_ := f1_.symm; have f5_ := f3_.symm; clear f1_ f2_ f3_; subst f4_; subst f5_))
          refine hK.out _ _ ⟨(blk_cell BK357.out 0).trans rfl, (blk_cell BK357.out 1).trans rfl, (blk_cell BK357.out 2).trans rfl, (blk_cell BK357.out 3).trans rfl, (blk_cell BK357.out 4).trans rfl, (blk_cell BK357.out 5).trans rfl, (blk_cell BK357.out 6).trans rfl⟩ (fun hHeld => ?_)
          clear hK K
          refine norm_ (a' := ?_) ?_ ?_
          rotate_left
          ·show Act.put _ (some 53) _ = _
           simp only [Act.put, List.setIfInBounds_toArray, List.set_cons_zero, List.set_cons_succ, i64_w, i32_w]
           rfl
          refine pure_ (i := 5) (N := some 48) (v := ?_) (a' := ?_) #[true, true, true, true, true, true, false, false, false, false] rfl rfl (any_of HT_.out (by kernel_rfl)) (fun _ _ _ h => h) (Or.inl ⟨by rfl, ?_⟩) ?_ ?_
          rotate_left
          ·intro w'
           go_simp
           with_reducible rfl
          rotate_left
          ·simp only [Act.put, List.setIfInBounds_toArray, List.set_cons_zero, List.set_cons_succ, i64_w, i32_w]
           rfl
          refine pure_ (i := 6) (N := some 54) (v := ?_) (a' := ?_) #[true, true, true, true, true, true, true, false, false, false] rfl rfl (any_of HT_.out (by kernel_rfl)) (fun _ _ _ h => h) (Or.inl ⟨by rfl, ?_⟩) ?_ ?_
          rotate_left
          ·intro w'
           go_simp
           with_reducible rfl
          rotate_left
          ·simp only [Act.put, List.setIfInBounds_toArray, List.set_cons_zero, List.set_cons_succ, i64_w, i32_w]
           rfl
          refine pure_ (i := 7) (N := some 55) (v := ?_) (a' := ?_) #[true, true, true, true, true, true, true, true, false, false] rfl rfl (any_of HT_.out (by kernel_rfl)) (fun _ _ _ h => h) (Or.inl ⟨by rfl, ?_⟩) ?_ ?_
          rotate_left
          ·intro w'
           go_simp
           with_reducible rfl
          rotate_left
          ·simp only [Act.put, List.setIfInBounds_toArray, List.set_cons_zero, List.set_cons_succ, i64_w, i32_w]
           rfl
          refine pure_ (i := 8) (N := some 56) (v := ?_) (a' := ?_) #[true, true, true, true, true, true, true, true, true, false] rfl rfl (any_of HT_.out (by kernel_rfl)) (fun _ _ _ h => h) (Or.inl ⟨by rfl, ?_⟩) ?_ ?_
          rotate_left
          ·intro w'
           go_simp
           with_reducible rfl
          rotate_left
          ·simp only [Act.put, List.setIfInBounds_toArray, List.set_cons_zero, List.set_cons_succ, i64_w, i32_w]
           rfl
          refine one_ (i := 9) (N := none) #[true, true, true, true, true, true, true, true, true, true] rfl rfl (one_of HT_.out (by kernel_rfl)) (by decide) (fun K hK => ?_)
          have hs48 : w46.cell? ⟨gb360, 0, none⟩ = some (.slice none 0 0) := (blk_cell BK360.out 0).trans rfl
          have hfs48 := blk_frozen BK360.out 0
          have hns48_0 := NB357_360.out
          have hns48_1 := NB358_360.out
          have hms48_0 := NB360_357.out
          have hms48_1 := NB360_358.out
          refine skip_ (w1 := ?_) (by rfl) rfl ?_ ?_
          rotate_left
          ·go_simp
           rfl
          refine hK.out _ _ ⟨((cell_far (p := ⟨gb360, _, none⟩) NB357_360.out _).trans (hHeld.1)), ((cell_far (p := ⟨gb360, _, none⟩) NB357_360.out _).trans (hHeld.2.1)), ((cell_far (p := ⟨gb360, _, none⟩) NB357_360.out _).trans (hHeld.2.2.1)), ((cell_far (p := ⟨gb360, _, none⟩) NB357_360.out _).trans (hHeld.2.2.2.1)), ((cell_far (p := ⟨gb360, _, none⟩) NB357_360.out _).trans (hHeld.2.2.2.2.1)), ((cell_far (p := ⟨gb360, _, none⟩) NB357_360.out _).trans (hHeld.2.2.2.2.2.1)), ((cell_far (p := ⟨gb360, _, none⟩) NB357_360.out _).trans (hHeld.2.2.2.2.2.2))⟩ (fun hHeld => ?_)
          clear hK K
          refine done_ (done_of HT_.out (by kernel_rfl)) ?_
          try go_wp2
          go_meet
          case rel => exact ⟨_, (0), (t364), (0), (.slice Ao47 t364.length co47), H', ⟨by have := HJ31.out; first | omega | exact Nat.le_refl _⟩, ⟨by (with_reducible repeat (first | apply Kd.R_alloc | apply Kd.R_drewN | apply Kd.R_drew)); exact Kd.R_mono (Kd.R_far (p := ⟨gb360, 0, none⟩) (Kd.R_types HO367.out BK360.out (by decide)) (fun _ hk => hk.2) (.slice Ao47 t364.length co47)) (fun _ hk => trivial)⟩, ⟨by (with_reducible repeat (first | refine blk_drewN ?_ _ | refine blk_drew ?_ | refine blk_alloc ?_ _)); refine blk_far ?_ NB357_360.out _; (with_reducible repeat (first | refine blk_drewN ?_ _ | refine blk_drew ?_ | refine blk_alloc ?_ _)); exact BK357.out⟩, ⟨by (with_reducible repeat (first | refine blk_drewN ?_ _ | refine blk_drew ?_ | refine blk_alloc ?_ _)); refine blk_far ?_ NB358_360.out _; (with_reducible repeat (first | refine blk_drewN ?_ _ | refine blk_drew ?_ | refine blk_alloc ?_ _)); exact BK358.out⟩, ⟨by (with_reducible repeat (first | refine blk_drewN ?_ _ | refine blk_drew ?_ | refine blk_alloc ?_ _)); refine blk_put (cs := #[.slice none 0 0, .int .i64 0]) ?_ 0 _ rfl; (with_reducible repeat (first | refine blk_drewN ?_ _ | refine blk_drew ?_ | refine blk_alloc ?_ _)); exact BK360.out⟩, ⟨bl3_ HB GE357 GE358 GE360⟩⟩
         ·rw [if_neg c42] at H
          exact absurd H (by simp)
        ·replace c41 := Bool.eq_false_iff.mpr c41
         subst c41
         have H1 : (if a0_0 = 3 then (if 2 ≤ (l1.length : Int) then ((pdu_words.f kj31 (l1.drop 2)).bind fun t369 => (pdu_AnswerParse.j1 kj31 l1 a0_0 a0_1 a0_2 l0_3 a0_4 a0_5 a0_6 t369 0)) else (none)) else (if a0_0 = 4 then (if 2 ≤ (l1.length : Int) then ((pdu_words.f kj31 (l1.drop 2)).bind fun t373 => (pdu_AnswerParse.j1 kj31 l1 a0_0 a0_1 a0_2 l0_3 a0_4 a0_5 a0_6 t373 0)) else (none)) else (if a0_0 = 23 then (if 2 ≤ (l1.length : Int) then ((pdu_words.f kj31 (l1.drop 2)).bind fun t377 => (pdu_AnswerParse.j1 kj31 l1 a0_0 a0_1 a0_2 l0_3 a0_4 a0_5 a0_6 t377 0)) else (none)) else (pdu_AnswerParse.j1 kj31 l1 a0_0 a0_1 a0_2 l0_3 a0_4 a0_5 a0_6 ([] : List Int) 0)))) = some (r1, r2, r3) := by rw [if_neg (show ¬ (false = true) by decide)] at H; exact H
         clear H
         have H := H1
         clear H1
         by_cases c49 : a0_0 = 3
         ·rw [if_pos c49] at H
          have c49b0 : (a0_0 == 3) = true := beq_iff_eq.mpr c49
          have c49b1 : (a0_0 != 3) = false := bne_eq_false_iff_eq.mpr c49
          clear c49
          by_cases c50 : 2 ≤ (l1.length : Int)
          ·rw [if_pos c50] at H
           have c50b0 := eq_true c50
           have c50b1 : decide (2 ≤ (l1.length : Int)) = true := decide_eq_true c50
           clear c50
           replace H := Option.bind_eq_some_iff.mp H
           obtain ⟨t369, A510, H⟩ := H
           replace H : (pdu_AnswerParse.j1 kj31 l1 a0_0 a0_1 a0_2 l0_3 a0_4 a0_5 a0_6 t369 0) = some (r1, r2, r3) := H
           have A51 := Aside0.mk A510
           clear A510
           have H' := Aside0.mk H
           clear H
           have hnb52 := NB357_358.out
           have hnc52 := NB358_357.out
           have hnb53 := NB357_360.out
           have hnc53 := NB360_357.out
           refine cz7_ BK357.out ?_; intro hcz54_0 hcz54_1 hcz54_2 hcz54_3 hcz54_4 hcz54_5 hcz54_6 hfz54_0 hfz54_1 hfz54_2 hfz54_3 hfz54_4 hfz54_5 hfz54_6
           obtain ⟨i055, hi055, _, hsz55, _⟩ := info_parts info5
           obtain ⟨A55, hcut55, hA55, hC55⟩ := print_drop_of (P := Try.prog) (Value.int .u8) 0 58 5 .i64 Try.underlying58 hi055 hsz55 (some ad361) c1 l1 2 (by omega) (of_decide_eq_true (by first | (with_reducible assumption) | assumption)) HC1.out
           have HR368 := Aside0.mk (Kd.C_of_reads (h1 := fun _ => rfl) (hA55 _ (Kd.reads_of_C HR1.out)))
           have HC368 := Aside0.mk hC55
           clear hA55 hC55 hi055 hsz55
           go_wp2_with (first | ((with_reducible refine gate_callee (f := 59) rfl ?_); refine goesL_ (some 73) rfl rfl Try.func59 (by kernel_rfl) rfl #[.slice A55 (l1.drop 2).length (c1 - 2)] rfl (by (try simp only [List.map_toArray, List.map_cons, List.map_nil]); first | done | (rw [show (l1.drop 2).length = (l1.length - 2) from List.length_drop] <;> rfl) | rfl | (simp only [List.length_drop, List.length_take]; rfl)) ?_; (with_reducible refine (pdu_words.calls kj31 _ _ (l1.drop 2) t369 _ ?side1 ?side2 A51.out).mono ?_); (case side1 => exact sc_ (Kd.C_below HR368.out HB.out)); (case side2 => exact HC368.out); rintro e w56 ⟨v370, rfl, ho0, hb⟩; refine ⟨_, rfl, ?_⟩; have n0_ := Aside0.mk (Kd.R_lower ho0 (below_size (bl3_ HB GE357 GE358 GE360))); have n1_ := Aside0.mk (blk_below (g := gb357) (bk_ BK357) hb); have n2_ := Aside0.mk (blk_below (g := gb358) (bk_ BK358) hb); have n3_ := Aside0.mk (blk_below (g := gb360) (bk_ BK360) hb); have n4_ := Aside0.mk (below_step (bl3_ HB GE357 GE358 GE360) hb); clear BK357; clear BK358; clear BK360; clear HB; have HO371 := n0_; have BK357 := n1_; have BK358 := n2_; have BK360 := n3_; have HB := n4_; clear n0_ n1_ n2_ n3_ n4_; (try clear hb); (try clear hb2); (try clear hk); (try clear hi); (try clear ho0); obtain ⟨Ao57, co57, eo57⟩ := Kd.R_slice HO371.out; subst eo57; have hnb58 := NB360_358.out; have hnc58 := NB358_360.out; refine cz2_ BK360.out ?_; intro hcz59_0 hcz59_1 hfz59_0 hfz59_1))
           go_meet
           case rel => exact ⟨_, (0), (t369), (0), (.slice Ao57 t369.length co57), H', ⟨by have := HJ31.out; first | omega | exact Nat.le_refl _⟩, ⟨by (with_reducible repeat (first | apply Kd.R_alloc | apply Kd.R_drewN | apply Kd.R_drew)); exact Kd.R_mono (Kd.R_far (p := ⟨gb360, 0, none⟩) (Kd.R_types HO371.out BK360.out (by decide)) (fun _ hk => hk.2) (.slice Ao57 t369.length co57)) (fun _ hk => trivial)⟩, ⟨by (with_reducible repeat (first | refine blk_drewN ?_ _ | refine blk_drew ?_ | refine blk_alloc ?_ _)); refine blk_far ?_ NB357_360.out _; (with_reducible repeat (first | refine blk_drewN ?_ _ | refine blk_drew ?_ | refine blk_alloc ?_ _)); exact BK357.out⟩, ⟨by (with_reducible repeat (first | refine blk_drewN ?_ _ | refine blk_drew ?_ | refine blk_alloc ?_ _)); refine blk_far ?_ NB358_360.out _; (with_reducible repeat (first | refine blk_drewN ?_ _ | refine blk_drew ?_ | refine blk_alloc ?_ _)); exact BK358.out⟩, ⟨by (with_reducible repeat (first | refine blk_drewN ?_ _ | refine blk_drew ?_ | refine blk_alloc ?_ _)); refine blk_put (cs := #[.slice none 0 0, .int .i64 0]) ?_ 0 _ rfl; (with_reducible repeat (first | refine blk_drewN ?_ _ | refine blk_drew ?_ | refine blk_alloc ?_ _)); exact BK360.out⟩, ⟨bl3_ HB GE357 GE358 GE360⟩⟩
          ·rw [if_neg c50] at H
           exact absurd H (by simp)
         ·rw [if_neg c49] at H
          have c49b0 : (a0_0 == 3) = false := beq_eq_false_iff_ne.mpr c49
          have c49b1 : (a0_0 != 3) = true := bne_iff_ne.mpr c49
          by_cases c60 : a0_0 = 4
          ·rw [if_pos c60] at H
           have c60b0 : (a0_0 == 4) = true := beq_iff_eq.mpr c60
           have c60b1 : (a0_0 != 4) = false := bne_eq_false_iff_eq.mpr c60
           clear c60
           by_cases c61 : 2 ≤ (l1.length : Int)
           ·rw [if_pos c61] at H
            have c61b0 := eq_true c61
            have c61b1 : decide (2 ≤ (l1.length : Int)) = true := decide_eq_true c61
            clear c61
            replace H := Option.bind_eq_some_iff.mp H
            obtain ⟨t373, A620, H⟩ := H
            replace H : (pdu_AnswerParse.j1 kj31 l1 a0_0 a0_1 a0_2 l0_3 a0_4 a0_5 a0_6 t373 0) = some (r1, r2, r3) := H
            have A62 := Aside0.mk A620
            clear A620
            have H' := Aside0.mk H
            clear H
            have hnb63 := NB357_358.out
            have hnc63 := NB358_357.out
            have hnb64 := NB357_360.out
            have hnc64 := NB360_357.out
            refine cz7_ BK357.out ?_; intro hcz65_0 hcz65_1 hcz65_2 hcz65_3 hcz65_4 hcz65_5 hcz65_6 hfz65_0 hfz65_1 hfz65_2 hfz65_3 hfz65_4 hfz65_5 hfz65_6
            obtain ⟨i066, hi066, _, hsz66, _⟩ := info_parts info5
            obtain ⟨A66, hcut66, hA66, hC66⟩ := print_drop_of (P := Try.prog) (Value.int .u8) 0 58 5 .i64 Try.underlying58 hi066 hsz66 (some ad361) c1 l1 2 (by omega) (of_decide_eq_true (by first | (with_reducible assumption) | assumption)) HC1.out
            have HR372 := Aside0.mk (Kd.C_of_reads (h1 := fun _ => rfl) (hA66 _ (Kd.reads_of_C HR1.out)))
            have HC372 := Aside0.mk hC66
            clear hA66 hC66 hi066 hsz66
            go_wp2_with (first | ((with_reducible refine gate_callee (f := 59) rfl ?_); refine goesL_ (some 73) rfl rfl Try.func59 (by kernel_rfl) rfl #[.slice A66 (l1.drop 2).length (c1 - 2)] rfl (by (try simp only [List.map_toArray, List.map_cons, List.map_nil]); first | done | (rw [show (l1.drop 2).length = (l1.length - 2) from List.length_drop] <;> rfl) | rfl | (simp only [List.length_drop, List.length_take]; rfl)) ?_; (with_reducible refine (pdu_words.calls kj31 _ _ (l1.drop 2) t373 _ ?side1 ?side2 A62.out).mono ?_); (case side1 => exact sc_ (Kd.C_below HR372.out HB.out)); (case side2 => exact HC372.out); rintro e w67 ⟨v374, rfl, ho0, hb⟩; refine ⟨_, rfl, ?_⟩; have n0_ := Aside0.mk (Kd.R_lower ho0 (below_size (bl3_ HB GE357 GE358 GE360))); have n1_ := Aside0.mk (blk_below (g := gb357) (bk_ BK357) hb); have n2_ := Aside0.mk (blk_below (g := gb358) (bk_ BK358) hb); have n3_ := Aside0.mk (blk_below (g := gb360) (bk_ BK360) hb); have n4_ := Aside0.mk (below_step (bl3_ HB GE357 GE358 GE360) hb); clear BK357; clear BK358; clear BK360; clear HB; have HO375 := n0_; have BK357 := n1_; have BK358 := n2_; have BK360 := n3_; have HB := n4_; clear n0_ n1_ n2_ n3_ n4_; (try clear hb); (try clear hb2); (try clear hk); (try clear hi); (try clear ho0); obtain ⟨Ao68, co68, eo68⟩ := Kd.R_slice HO375.out; subst eo68; have hnb69 := NB360_358.out; have hnc69 := NB358_360.out; refine cz2_ BK360.out ?_; intro hcz70_0 hcz70_1 hfz70_0 hfz70_1))
            go_meet
            case rel => exact ⟨_, (0), (t373), (0), (.slice Ao68 t373.length co68), H', ⟨by have := HJ31.out; first | omega | exact Nat.le_refl _⟩, ⟨by (with_reducible repeat (first | apply Kd.R_alloc | apply Kd.R_drewN | apply Kd.R_drew)); exact Kd.R_mono (Kd.R_far (p := ⟨gb360, 0, none⟩) (Kd.R_types HO375.out BK360.out (by decide)) (fun _ hk => hk.2) (.slice Ao68 t373.length co68)) (fun _ hk => trivial)⟩, ⟨by (with_reducible repeat (first | refine blk_drewN ?_ _ | refine blk_drew ?_ | refine blk_alloc ?_ _)); refine blk_far ?_ NB357_360.out _; (with_reducible repeat (first | refine blk_drewN ?_ _ | refine blk_drew ?_ | refine blk_alloc ?_ _)); exact BK357.out⟩, ⟨by (with_reducible repeat (first | refine blk_drewN ?_ _ | refine blk_drew ?_ | refine blk_alloc ?_ _)); refine blk_far ?_ NB358_360.out _; (with_reducible repeat (first | refine blk_drewN ?_ _ | refine blk_drew ?_ | refine blk_alloc ?_ _)); exact BK358.out⟩, ⟨by (with_reducible repeat (first | refine blk_drewN ?_ _ | refine blk_drew ?_ | refine blk_alloc ?_ _)); refine blk_put (cs := #[.slice none 0 0, .int .i64 0]) ?_ 0 _ rfl; (with_reducible repeat (first | refine blk_drewN ?_ _ | refine blk_drew ?_ | refine blk_alloc ?_ _)); exact BK360.out⟩, ⟨bl3_ HB GE357 GE358 GE360⟩⟩
           ·rw [if_neg c61] at H
            exact absurd H (by simp)
          ·rw [if_neg c60] at H
           have c60b0 : (a0_0 == 4) = false := beq_eq_false_iff_ne.mpr c60
           have c60b1 : (a0_0 != 4) = true := bne_iff_ne.mpr c60
           by_cases c71 : a0_0 = 23
           ·rw [if_pos c71] at H
            have c71b0 : (a0_0 == 23) = true := beq_iff_eq.mpr c71
            have c71b1 : (a0_0 != 23) = false := bne_eq_false_iff_eq.mpr c71
            clear c71
            by_cases c72 : 2 ≤ (l1.length : Int)
            ·rw [if_pos c72] at H
             have c72b0 := eq_true c72
             have c72b1 : decide (2 ≤ (l1.length : Int)) = true := decide_eq_true c72
             clear c72
             replace H := Option.bind_eq_some_iff.mp H
             obtain ⟨t377, A730, H⟩ := H
             replace H : (pdu_AnswerParse.j1 kj31 l1 a0_0 a0_1 a0_2 l0_3 a0_4 a0_5 a0_6 t377 0) = some (r1, r2, r3) := H
             have A73 := Aside0.mk A730
             clear A730
             have H' := Aside0.mk H
             clear H
             have hnb74 := NB357_358.out
             have hnc74 := NB358_357.out
             have hnb75 := NB357_360.out
             have hnc75 := NB360_357.out
             refine cz7_ BK357.out ?_; intro hcz76_0 hcz76_1 hcz76_2 hcz76_3 hcz76_4 hcz76_5 hcz76_6 hfz76_0 hfz76_1 hfz76_2 hfz76_3 hfz76_4 hfz76_5 hfz76_6
             obtain ⟨i077, hi077, _, hsz77, _⟩ := info_parts info5
             obtain ⟨A77, hcut77, hA77, hC77⟩ := print_drop_of (P := Try.prog) (Value.int .u8) 0 58 5 .i64 Try.underlying58 hi077 hsz77 (some ad361) c1 l1 2 (by omega) (of_decide_eq_true (by first | (with_reducible assumption) | assumption)) HC1.out
             have HR376 := Aside0.mk (Kd.C_of_reads (h1 := fun _ => rfl) (hA77 _ (Kd.reads_of_C HR1.out)))
             have HC376 := Aside0.mk hC77
             clear hA77 hC77 hi077 hsz77
             go_wp2_with (first | ((with_reducible refine gate_callee (f := 59) rfl ?_); refine goesL_ (some 73) rfl rfl Try.func59 (by kernel_rfl) rfl #[.slice A77 (l1.drop 2).length (c1 - 2)] rfl (by (try simp only [List.map_toArray, List.map_cons, List.map_nil]); first | done | (rw [show (l1.drop 2).length = (l1.length - 2) from List.length_drop] <;> rfl) | rfl | (simp only [List.length_drop, List.length_take]; rfl)) ?_; (with_reducible refine (pdu_words.calls kj31 _ _ (l1.drop 2) t377 _ ?side1 ?side2 A73.out).mono ?_); (case side1 => exact sc_ (Kd.C_below HR376.out HB.out)); (case side2 => exact HC376.out); rintro e w78 ⟨v378, rfl, ho0, hb⟩; refine ⟨_, rfl, ?_⟩; have n0_ := Aside0.mk (Kd.R_lower ho0 (below_size (bl3_ HB GE357 GE358 GE360))); have n1_ := Aside0.mk (blk_below (g := gb357) (bk_ BK357) hb); have n2_ := Aside0.mk (blk_below (g := gb358) (bk_ BK358) hb); have n3_ := Aside0.mk (blk_below (g := gb360) (bk_ BK360) hb); have n4_ := Aside0.mk (below_step (bl3_ HB GE357 GE358 GE360) hb); clear BK357; clear BK358; clear BK360; clear HB; have HO379 := n0_; have BK357 := n1_; have BK358 := n2_; have BK360 := n3_; have HB := n4_; clear n0_ n1_ n2_ n3_ n4_; (try clear hb); (try clear hb2); (try clear hk); (try clear hi); (try clear ho0); obtain ⟨Ao79, co79, eo79⟩ := Kd.R_slice HO379.out; subst eo79; have hnb80 := NB360_358.out; have hnc80 := NB358_360.out; refine cz2_ BK360.out ?_; intro hcz81_0 hcz81_1 hfz81_0 hfz81_1))
             go_meet
             case rel => exact ⟨_, (0), (t377), (0), (.slice Ao79 t377.length co79), H', ⟨by have := HJ31.out; first | omega | exact Nat.le_refl _⟩, ⟨by (with_reducible repeat (first | apply Kd.R_alloc | apply Kd.R_drewN | apply Kd.R_drew)); exact Kd.R_mono (Kd.R_far (p := ⟨gb360, 0, none⟩) (Kd.R_types HO379.out BK360.out (by decide)) (fun _ hk => hk.2) (.slice Ao79 t377.length co79)) (fun _ hk => trivial)⟩, ⟨by (with_reducible repeat (first | refine blk_drewN ?_ _ | refine blk_drew ?_ | refine blk_alloc ?_ _)); refine blk_far ?_ NB357_360.out _; (with_reducible repeat (first | refine blk_drewN ?_ _ | refine blk_drew ?_ | refine blk_alloc ?_ _)); exact BK357.out⟩, ⟨by (with_reducible repeat (first | refine blk_drewN ?_ _ | refine blk_drew ?_ | refine blk_alloc ?_ _)); refine blk_far ?_ NB358_360.out _; (with_reducible repeat (first | refine blk_drewN ?_ _ | refine blk_drew ?_ | refine blk_alloc ?_ _)); exact BK358.out⟩, ⟨by (with_reducible repeat (first | refine blk_drewN ?_ _ | refine blk_drew ?_ | refine blk_alloc ?_ _)); refine blk_put (cs := #[.slice none 0 0, .int .i64 0]) ?_ 0 _ rfl; (with_reducible repeat (first | refine blk_drewN ?_ _ | refine blk_drew ?_ | refine blk_alloc ?_ _)); exact BK360.out⟩, ⟨bl3_ HB GE357 GE358 GE360⟩⟩
            ·rw [if_neg c72] at H
             exact absurd H (by simp)
           ·rw [if_neg c71] at H
            have c71b0 : (a0_0 == 23) = false := beq_eq_false_iff_ne.mpr c71
            have c71b1 : (a0_0 != 23) = true := bne_iff_ne.mpr c71
            have H' := Aside0.mk H
            clear H
            have hnb82 := NB357_358.out
            have hnc82 := NB358_357.out
            have hnb83 := NB357_360.out
            have hnc83 := NB360_357.out
            refine cz7_ BK357.out ?_; intro hcz84_0 hcz84_1 hcz84_2 hcz84_3 hcz84_4 hcz84_5 hcz84_6 hfz84_0 hfz84_1 hfz84_2 hfz84_3 hfz84_4 hfz84_5 hfz84_6
            go_wp2
            go_meet
            case rel => exact ⟨_, (0), (([] : List Int)), (0), (.slice none 0 0), H', ⟨by have := HJ31.out; first | omega | exact Nat.le_refl _⟩, ⟨by first | exact Kd.R_nil _ _ _ _ _ | exact Kd.N_nil _ _ _ _ _ | exact Kd.V_nil _ _ _ _ _ | exact Kd.Q_nil _ _ _ _ _ | exact Kd.S_nil _ _ _ _ _⟩, ⟨bk_ BK357⟩, ⟨bk_ BK358⟩, ⟨bk_ BK360⟩, ⟨bl3_ HB GE357 GE358 GE360⟩⟩
    ·rw [if_neg c18] at H
     exact absurd H (by simp)
  case rest =>
   clear HC5
   try clear c1
   try clear c2
   try clear p2
   try clear c3
   try clear p3
   try clear q3
   try clear hx3
   try clear qi3
   try clear c4
   try clear c4b0
   try clear c4b1
   try clear c5
   try clear c6
   try clear p6
   try clear c7
   try clear c8
   try clear c12
   try clear c12b0
   try clear c12b1
   try clear c13
   try clear c14
   try clear c16
   try clear c18
   try clear c18b0
   try clear c18b1
   try clear c19
   try clear c19b0
   try clear c19b1
   try clear c20
   try clear c20b0
   try clear c20b1
   try clear c21
   try clear c21b0
   try clear c21b1
   try clear c23
   try clear c24
   try clear c26
   try clear c29
   try clear c30
   try clear c34
   try clear c34b0
   try clear c34b1
   try clear c35
   try clear c36
   try clear p36
   try clear q36
   try clear hx36
   try clear qi36
   try clear c38
   try clear c39
   try clear c41
   try clear c42
   try clear c42b0
   try clear c42b1
   try clear c49
   try clear c49b0
   try clear c49b1
   try clear c50
   try clear c50b0
   try clear c50b1
   try clear c52
   try clear c53
   try clear c58
   try clear c59
   try clear c60
   try clear c60b0
   try clear c60b1
   try clear c61
   try clear c61b0
   try clear c61b1
   try clear c63
   try clear c64
   try clear c69
   try clear c71
   try clear c71b0
   try clear c71b1
   try clear c72
   try clear c72b0
   try clear c72b1
   try clear c74
   try clear c75
   try clear c80
   try clear c82
   try clear c83
   try clear hcz15_0 hcz15_1
   try clear hcz17_0 hcz17_1
   try clear hcz25_0 hcz25_1
   try clear hcz27_0 hcz27_1
   try clear hcz31_0 hcz31_1
   try clear hcz37_0 hcz37_1 hcz37_2 hcz37_3 hcz37_4 hcz37_5 hcz37_6
   try clear hcz40_0 hcz40_1 hcz40_2 hcz40_3 hcz40_4 hcz40_5 hcz40_6
   try clear hcz54_0 hcz54_1 hcz54_2 hcz54_3 hcz54_4 hcz54_5 hcz54_6
   try clear hcz59_0 hcz59_1
   try clear hcz65_0 hcz65_1 hcz65_2 hcz65_3 hcz65_4 hcz65_5 hcz65_6
   try clear hcz70_0 hcz70_1
   try clear hcz76_0 hcz76_1 hcz76_2 hcz76_3 hcz76_4 hcz76_5 hcz76_6
   try clear hcz81_0 hcz81_1
   try clear hcz84_0 hcz84_1 hcz84_2 hcz84_3 hcz84_4 hcz84_5 hcz84_6
   try clear hcz9_0 hcz9_1 hcz9_2 hcz9_3 hcz9_4 hcz9_5 hcz9_6
   try clear hfz15_0 hfz15_1
   try clear hfz17_0 hfz17_1
   try clear hfz25_0 hfz25_1
   try clear hfz27_0 hfz27_1
   try clear hfz31_0 hfz31_1
   try clear hfz37_0 hfz37_1 hfz37_2 hfz37_3 hfz37_4 hfz37_5 hfz37_6
   try clear hfz40_0 hfz40_1 hfz40_2 hfz40_3 hfz40_4 hfz40_5 hfz40_6
   try clear hfz54_0 hfz54_1 hfz54_2 hfz54_3 hfz54_4 hfz54_5 hfz54_6
   try clear hfz59_0 hfz59_1
   try clear hfz65_0 hfz65_1 hfz65_2 hfz65_3 hfz65_4 hfz65_5 hfz65_6
   try clear hfz70_0 hfz70_1
   try clear hfz76_0 hfz76_1 hfz76_2 hfz76_3 hfz76_4 hfz76_5 hfz76_6
   try clear hfz81_0 hfz81_1
   try clear hfz84_0 hfz84_1 hfz84_2 hfz84_3 hfz84_4 hfz84_5 hfz84_6
   try clear hfz9_0 hfz9_1 hfz9_2 hfz9_3 hfz9_4 hfz9_5 hfz9_6
   try clear hx361_0
   try clear hx362_0
   try clear p2
   try clear p3
   try clear p36
   try clear p361
   try clear p362
   try clear p6
   try clear q3
   try clear q36
   try clear q361
   try clear q362
   obtain ⟨kq, x359001_4, x361000_4, x361001_4, u361000, HA, HJ4, HO_361000, BK357, BK358, BK360, HB⟩ := hcut
   cases kq with
   | zero => exact absurd HA.out (by simp [pdu_AnswerParse.j1])
   | succ kj4 =>
    have H := HA.out
    clear HA
    simp only [pdu_AnswerParse.j1] at H
    replace H := Option.bind_eq_some_iff.mp H
    obtain ⟨⟨t380, t383⟩, A850, H⟩ := H
    replace H : (if t383 = 0 then ((bytes_Equal.f t380 l1).bind fun t384 => (if t384 = true then (some (x361000_4, x361001_4, 0)) else (some (([] : List Int), 0, 4)))) else (some (([] : List Int), 0, 4))) = some (r1, r2, r3) := H
    have A85 := Aside0.mk A850
    clear A850
    by_cases c86 : t383 = 0
    ·rw [if_pos c86] at H
     have c86b0 : (t383 == 0) = true := beq_iff_eq.mpr c86
     have c86b1 : (t383 != 0) = false := bne_eq_false_iff_eq.mpr c86
     clear c86
     replace H := Option.bind_eq_some_iff.mp H
     obtain ⟨t384, A870, H⟩ := H
     replace H : (if t384 = true then (some (x361000_4, x361001_4, 0)) else (some (([] : List Int), 0, 4))) = some (r1, r2, r3) := H
     have A87 := Aside0.mk A870
     clear A870
     by_cases c88 : t384 = true
     ·subst c88
      have H1 : (some (x361000_4, x361001_4, 0)) = some (r1, r2, r3) := by rw [if_pos rfl] at H; exact H
      clear H
      have H := H1
      clear H1
      simp only [Option.some.injEq, Prod.mk.injEq] at H
      obtain ⟨rfl, rfl, rfl⟩ := H
      have hnb89 := NB357_358.out
      have hnc89 := NB358_357.out
      have hnb90 := NB357_360.out
      have hnc90 := NB360_357.out
      refine cz7_ BK357.out ?_; intro hcz91_0 hcz91_1 hcz91_2 hcz91_3 hcz91_4 hcz91_5 hcz91_6 hfz91_0 hfz91_1 hfz91_2 hfz91_3 hfz91_4 hfz91_5 hfz91_6
      have hnb92 := NB360_358.out
      have hnc92 := NB358_360.out
      refine cz2_ BK360.out ?_; intro hcz93_0 hcz93_1 hfz93_0 hfz93_1
      obtain ⟨Ao94, co94, eo94⟩ := Kd.R_slice HO_361000.out
      subst eo94
      go_wp2_with (first | ((with_reducible refine gate_callee (f := 36) rfl ?_); refine goesL_ (some 78) rfl rfl Try.func36 (by kernel_rfl) rfl #[.agg #[.int .i64 a0_0, .int .i64 a0_1, .int .i64 a0_2, .slice A0_3 l0_3.length c0_3, .int .i64 a0_4, .int .i64 a0_5, .int .i64 a0_6], .agg #[.slice Ao94 x361000_4.length co94, .int .i64 x361001_4]] rfl ar_ ?_; (with_reducible refine (pdu_AnswerBytes.calls kj4 a0_0 a0_1 a0_2 _ _ l0_3 a0_4 a0_5 a0_6 _ _ x361000_4 x361001_4 t380 t383 _ ?side1 ?side2 ?side3 ?side4 A85.out).mono ?_); (case side1 => exact sc_ (Kd.C_below HR0_3.out HB.out)); (case side2 => exact HC0_3.out); (case side3 => exact sc_ (Kd.R_reads' HO_361000.out).2.2); (case side4 => exact (Kd.R_reads' HO_361000.out).2.1); rintro e w95 ⟨v381, rfl, ho0, hb⟩; refine ⟨_, rfl, ?_⟩; have n0_ := Aside0.mk (Kd.R_below (kr_ HO_361000) hb); have n1_ := Aside0.mk (Kd.R_lower ho0 (below_size (bl3_ HB GE357 GE358 GE360))); have n2_ := Aside0.mk (blk_below (g := gb357) (bk_ BK357) hb); have n3_ := Aside0.mk (blk_below (g := gb358) (bk_ BK358) hb); have n4_ := Aside0.mk (blk_below (g := gb360) (bk_ BK360) hb); have n5_ := Aside0.mk (below_step (bl3_ HB GE357 GE358 GE360) hb); clear HO_361000; clear BK357; clear BK358; clear BK360; clear HB; have HO_361000 := n0_; have HO382 := n1_; have BK357 := n2_; have BK358 := n3_; have BK360 := n4_; have HB := n5_; clear n0_ n1_ n2_ n3_ n4_ n5_; (try clear hb); (try clear hb2); (try clear hk); (try clear hi); (try clear ho0); obtain ⟨Ao96, co96, eo96⟩ := Kd.R_slice HO382.out; subst eo96) | (go_at_call 62; (with_reducible refine (bytes_Equal.calls _ _ t380 _ _ l1 true _ ?side1 ?side2 ?side3 ?side4 A87.out).mono ?_); (case side1 => exact sc_ (Kd.R_reads' HO382.out).2.2); (case side2 => exact (Kd.R_reads' HO382.out).2.1); (case side3 => exact sc_ (Kd.C_below HR1.out HB.out)); (case side4 => exact HC1.out); rintro e w' ⟨rfl, ⟨nd, rfl⟩⟩; (try (rw [drewN_self w95]; generalize hq_ : World.drewN w95 _ = w95; have n0_ : Aside0 (Kd.R (Kd.int .u8) 5 w95 w.heap.size (fun _ => True) (.slice Ao96 t380.length co96) t380) := ⟨by rw [← hq_]; exact (kr_ HO382)⟩; have n1_ : Aside0 (Kd.R (Kd.int .i64) 3 w95 w.heap.size (fun _ => True) (.slice Ao94 x361000_4.length co94) x361000_4) := ⟨by rw [← hq_]; exact (kr_ HO_361000)⟩; have n2_ : Aside0 (w95.heap[gb357]? = some (.cells #[.int .i64 a0_0, .int .i64 a0_1, .int .i64 a0_2, .slice A0_3 l0_3.length c0_3, .int .i64 a0_4, .int .i64 a0_5, .int .i64 a0_6] 24 (0, 0))) := ⟨by rw [← hq_]; exact (bk_ BK357)⟩; have n3_ : Aside0 (w95.heap[gb358]? = some (.cells #[.slice none 0 0, .int .i64 x359001_4] 30 (0, 0))) := ⟨by rw [← hq_]; exact (bk_ BK358)⟩; have n4_ : Aside0 (w95.heap[gb360]? = some (.cells #[.slice Ao94 x361000_4.length co94, .int .i64 x361001_4] 30 (0, 0))) := ⟨by rw [← hq_]; exact (bk_ BK360)⟩; have n5_ : Aside0 (Below w.heap.size w w95) := ⟨by rw [← hq_]; exact (bl3_ HB GE357 GE358 GE360)⟩; clear HO382 HO_361000 BK357 BK358 BK360 HB hq_; have HO382 := n0_; have HO_361000 := n1_; have BK357 := n2_; have BK358 := n3_; have BK360 := n4_; have HB := n5_; clear n0_ n1_ n2_ n3_ n4_ n5_)); refine cz2_ BK360.out ?_; intro hcz97_0 hcz97_1 hfz97_0 hfz97_1; refine cz2_ BK358.out ?_; intro hcz98_0 hcz98_1 hfz98_0 hfz98_1))
      refine bodyPost_ret (results_ct rfl _ _ gb358 30 #[.slice Ao94 x361000_4.length co94, .int .i64 x361001_4] (0, 0) _ rfl (by (with_reducible repeat (first | refine blk_drewN ?_ _ | refine blk_drew ?_ | refine blk_alloc ?_ _)); refine blk_put (cs := #[.slice Ao94 x361000_4.length co94, .int .i64 x359001_4]) ?_ 1 _ rfl; (with_reducible repeat (first | refine blk_drewN ?_ _ | refine blk_drew ?_ | refine blk_alloc ?_ _)); refine blk_put (cs := #[.slice none 0 0, .int .i64 x359001_4]) ?_ 0 _ rfl; (with_reducible repeat (first | refine blk_drewN ?_ _ | refine blk_drew ?_ | refine blk_alloc ?_ _)); exact BK358.out) Try.underlying30 rfl (by kernel_rfl)) rfl ?_
      exact ⟨_, er_, by (with_reducible repeat (first | apply Kd.R_alloc | apply Kd.R_drewN | apply Kd.R_drew)); exact Kd.R_mono (Kd.R_far (p := ⟨gb358, 1, none⟩) (Kd.R_far (p := ⟨gb358, 0, none⟩) (Kd.R_types HO_361000.out BK358.out (by decide)) (fun _ hk => hk.2) (.slice Ao94 x361000_4.length co94)) (fun _ hk => hk.2) (.int .i64 x361001_4)) (fun _ hk => trivial), bl3_ HB GE357 GE358 GE360⟩
     ·replace c88 := Bool.eq_false_iff.mpr c88
      subst c88
      have H1 : (some (([] : List Int), 0, 4)) = some (r1, r2, r3) := by rw [if_neg (show ¬ (false = true) by decide)] at H; exact H
      clear H
      have H := H1
      clear H1
      simp only [Option.some.injEq, Prod.mk.injEq] at H
      obtain ⟨rfl, rfl, rfl⟩ := H
      have hnb99 := NB357_358.out
      have hnc99 := NB358_357.out
      have hnb100 := NB357_360.out
      have hnc100 := NB360_357.out
      refine cz7_ BK357.out ?_; intro hcz101_0 hcz101_1 hcz101_2 hcz101_3 hcz101_4 hcz101_5 hcz101_6 hfz101_0 hfz101_1 hfz101_2 hfz101_3 hfz101_4 hfz101_5 hfz101_6
      have hnb102 := NB360_358.out
      have hnc102 := NB358_360.out
      refine cz2_ BK360.out ?_; intro hcz103_0 hcz103_1 hfz103_0 hfz103_1
      obtain ⟨Ao104, co104, eo104⟩ := Kd.R_slice HO_361000.out
      subst eo104
      go_wp2_with (first | ((with_reducible refine gate_callee (f := 36) rfl ?_); refine goesL_ (some 78) rfl rfl Try.func36 (by kernel_rfl) rfl #[.agg #[.int .i64 a0_0, .int .i64 a0_1, .int .i64 a0_2, .slice A0_3 l0_3.length c0_3, .int .i64 a0_4, .int .i64 a0_5, .int .i64 a0_6], .agg #[.slice Ao104 x361000_4.length co104, .int .i64 x361001_4]] rfl ar_ ?_; (with_reducible refine (pdu_AnswerBytes.calls kj4 a0_0 a0_1 a0_2 _ _ l0_3 a0_4 a0_5 a0_6 _ _ x361000_4 x361001_4 t380 t383 _ ?side1 ?side2 ?side3 ?side4 A85.out).mono ?_); (case side1 => exact sc_ (Kd.C_below HR0_3.out HB.out)); (case side2 => exact HC0_3.out); (case side3 => exact sc_ (Kd.R_reads' HO_361000.out).2.2); (case side4 => exact (Kd.R_reads' HO_361000.out).2.1); rintro e w105 ⟨v381, rfl, ho0, hb⟩; refine ⟨_, rfl, ?_⟩; have n0_ := Aside0.mk (Kd.R_below (kr_ HO_361000) hb); have n1_ := Aside0.mk (Kd.R_lower ho0 (below_size (bl3_ HB GE357 GE358 GE360))); have n2_ := Aside0.mk (blk_below (g := gb357) (bk_ BK357) hb); have n3_ := Aside0.mk (blk_below (g := gb358) (bk_ BK358) hb); have n4_ := Aside0.mk (blk_below (g := gb360) (bk_ BK360) hb); have n5_ := Aside0.mk (below_step (bl3_ HB GE357 GE358 GE360) hb); clear HO_361000; clear BK357; clear BK358; clear BK360; clear HB; have HO_361000 := n0_; have HO382 := n1_; have BK357 := n2_; have BK358 := n3_; have BK360 := n4_; have HB := n5_; clear n0_ n1_ n2_ n3_ n4_ n5_; (try clear hb); (try clear hb2); (try clear hk); (try clear hi); (try clear ho0); obtain ⟨Ao106, co106, eo106⟩ := Kd.R_slice HO382.out; subst eo106) | (go_at_call 62; (with_reducible refine (bytes_Equal.calls _ _ t380 _ _ l1 false _ ?side1 ?side2 ?side3 ?side4 A87.out).mono ?_); (case side1 => exact sc_ (Kd.R_reads' HO382.out).2.2); (case side2 => exact (Kd.R_reads' HO382.out).2.1); (case side3 => exact sc_ (Kd.C_below HR1.out HB.out)); (case side4 => exact HC1.out); rintro e w' ⟨rfl, ⟨nd, rfl⟩⟩; (try (rw [drewN_self w105]; generalize hq_ : World.drewN w105 _ = w105; have n0_ : Aside0 (Kd.R (Kd.int .u8) 5 w105 w.heap.size (fun _ => True) (.slice Ao106 t380.length co106) t380) := ⟨by rw [← hq_]; exact (kr_ HO382)⟩; have n1_ : Aside0 (Kd.R (Kd.int .i64) 3 w105 w.heap.size (fun _ => True) (.slice Ao104 x361000_4.length co104) x361000_4) := ⟨by rw [← hq_]; exact (kr_ HO_361000)⟩; have n2_ : Aside0 (w105.heap[gb357]? = some (.cells #[.int .i64 a0_0, .int .i64 a0_1, .int .i64 a0_2, .slice A0_3 l0_3.length c0_3, .int .i64 a0_4, .int .i64 a0_5, .int .i64 a0_6] 24 (0, 0))) := ⟨by rw [← hq_]; exact (bk_ BK357)⟩; have n3_ : Aside0 (w105.heap[gb358]? = some (.cells #[.slice none 0 0, .int .i64 x359001_4] 30 (0, 0))) := ⟨by rw [← hq_]; exact (bk_ BK358)⟩; have n4_ : Aside0 (w105.heap[gb360]? = some (.cells #[.slice Ao104 x361000_4.length co104, .int .i64 x361001_4] 30 (0, 0))) := ⟨by rw [← hq_]; exact (bk_ BK360)⟩; have n5_ : Aside0 (Below w.heap.size w w105) := ⟨by rw [← hq_]; exact (bl3_ HB GE357 GE358 GE360)⟩; clear HO382 HO_361000 BK357 BK358 BK360 HB hq_; have HO382 := n0_; have HO_361000 := n1_; have BK357 := n2_; have BK358 := n3_; have BK360 := n4_; have HB := n5_; clear n0_ n1_ n2_ n3_ n4_ n5_)); refine cz2_ BK358.out ?_; intro hcz107_0 hcz107_1 hfz107_0 hfz107_1))
      refine bodyPost_ret (results_ct rfl _ _ gb358 30 #[.slice none 0 0, .int .i64 0] (0, 0) _ rfl (by (with_reducible repeat (first | refine blk_drewN ?_ _ | refine blk_drew ?_ | refine blk_alloc ?_ _)); refine blk_put (cs := #[.slice none 0 0, .int .i64 x359001_4]) ?_ 1 _ rfl; (with_reducible repeat (first | refine blk_drewN ?_ _ | refine blk_drew ?_ | refine blk_alloc ?_ _)); refine blk_put (cs := #[.slice none 0 0, .int .i64 x359001_4]) ?_ 0 _ rfl; (with_reducible repeat (first | refine blk_drewN ?_ _ | refine blk_drew ?_ | refine blk_alloc ?_ _)); exact BK358.out) Try.underlying30 rfl (by kernel_rfl)) rfl ?_
      exact ⟨_, er_, by first | exact Kd.R_nil _ _ _ _ _ | exact Kd.N_nil _ _ _ _ _ | exact Kd.V_nil _ _ _ _ _ | exact Kd.Q_nil _ _ _ _ _ | exact Kd.S_nil _ _ _ _ _, bl3_ HB GE357 GE358 GE360⟩
    ·rw [if_neg c86] at H
     have c86b0 : (t383 == 0) = false := beq_eq_false_iff_ne.mpr c86
     have c86b1 : (t383 != 0) = true := bne_iff_ne.mpr c86
     simp only [Option.some.injEq, Prod.mk.injEq] at H
     obtain ⟨rfl, rfl, rfl⟩ := H
     have hnb108 := NB357_358.out
     have hnc108 := NB358_357.out
     have hnb109 := NB357_360.out
     have hnc109 := NB360_357.out
     refine cz7_ BK357.out ?_; intro hcz110_0 hcz110_1 hcz110_2 hcz110_3 hcz110_4 hcz110_5 hcz110_6 hfz110_0 hfz110_1 hfz110_2 hfz110_3 hfz110_4 hfz110_5 hfz110_6
     have hnb111 := NB360_358.out
     have hnc111 := NB358_360.out
     refine cz2_ BK360.out ?_; intro hcz112_0 hcz112_1 hfz112_0 hfz112_1
     obtain ⟨Ao113, co113, eo113⟩ := Kd.R_slice HO_361000.out
     subst eo113
     go_wp2_with (first | ((with_reducible refine gate_callee (f := 36) rfl ?_); refine goesL_ (some 78) rfl rfl Try.func36 (by kernel_rfl) rfl #[.agg #[.int .i64 a0_0, .int .i64 a0_1, .int .i64 a0_2, .slice A0_3 l0_3.length c0_3, .int .i64 a0_4, .int .i64 a0_5, .int .i64 a0_6], .agg #[.slice Ao113 x361000_4.length co113, .int .i64 x361001_4]] rfl ar_ ?_; (with_reducible refine (pdu_AnswerBytes.calls kj4 a0_0 a0_1 a0_2 _ _ l0_3 a0_4 a0_5 a0_6 _ _ x361000_4 x361001_4 t380 t383 _ ?side1 ?side2 ?side3 ?side4 A85.out).mono ?_); (case side1 => exact sc_ (Kd.C_below HR0_3.out HB.out)); (case side2 => exact HC0_3.out); (case side3 => exact sc_ (Kd.R_reads' HO_361000.out).2.2); (case side4 => exact (Kd.R_reads' HO_361000.out).2.1); rintro e w114 ⟨v381, rfl, ho0, hb⟩; refine ⟨_, rfl, ?_⟩; have n0_ := Aside0.mk (Kd.R_below (kr_ HO_361000) hb); have n1_ := Aside0.mk (Kd.R_lower ho0 (below_size (bl3_ HB GE357 GE358 GE360))); have n2_ := Aside0.mk (blk_below (g := gb357) (bk_ BK357) hb); have n3_ := Aside0.mk (blk_below (g := gb358) (bk_ BK358) hb); have n4_ := Aside0.mk (blk_below (g := gb360) (bk_ BK360) hb); have n5_ := Aside0.mk (below_step (bl3_ HB GE357 GE358 GE360) hb); clear HO_361000; clear BK357; clear BK358; clear BK360; clear HB; have HO_361000 := n0_; have HO382 := n1_; have BK357 := n2_; have BK358 := n3_; have BK360 := n4_; have HB := n5_; clear n0_ n1_ n2_ n3_ n4_ n5_; (try clear hb); (try clear hb2); (try clear hk); (try clear hi); (try clear ho0); refine cz2_ BK358.out ?_; intro hcz115_0 hcz115_1 hfz115_0 hfz115_1))
     refine bodyPost_ret (results_ct rfl _ _ gb358 30 #[.slice none 0 0, .int .i64 0] (0, 0) _ rfl (by (with_reducible repeat (first | refine blk_drewN ?_ _ | refine blk_drew ?_ | refine blk_alloc ?_ _)); refine blk_put (cs := #[.slice none 0 0, .int .i64 x359001_4]) ?_ 1 _ rfl; (with_reducible repeat (first | refine blk_drewN ?_ _ | refine blk_drew ?_ | refine blk_alloc ?_ _)); refine blk_put (cs := #[.slice none 0 0, .int .i64 x359001_4]) ?_ 0 _ rfl; (with_reducible repeat (first | refine blk_drewN ?_ _ | refine blk_drew ?_ | refine blk_alloc ?_ _)); exact BK358.out) Try.underlying30 rfl (by kernel_rfl)) rfl ?_
     exact ⟨_, er_, by first | exact Kd.R_nil _ _ _ _ _ | exact Kd.N_nil _ _ _ _ _ | exact Kd.V_nil _ _ _ _ _ | exact Kd.Q_nil _ _ _ _ _ | exact Kd.S_nil _ _ _ _ _, bl3_ HB GE357 GE358 GE360⟩
 ·rw [if_neg c4] at H
  have c4b0 : (t359 == 0) = false := beq_eq_false_iff_ne.mpr c4
  have c4b1 : (t359 != 0) = true := bne_iff_ne.mpr c4
  simp only [Option.some.injEq, Prod.mk.injEq] at H
  obtain ⟨rfl, rfl, rfl⟩ := H
  go_enter Try.func39, Try.ntmps39
  go_wp2_with (first | ((with_reducible refine gate_dst (N := 2) rfl ?_); refine bx_ (N := 2) (cs := #[.int .i64 a0_0, .int .i64 a0_1, .int .i64 a0_2, .slice A0_3 l0_3.length c0_3, .int .i64 a0_4, .int .i64 a0_5, .int .i64 a0_6]) (t := 24) ?_; intro gb357 hg w116 hbox hb; have n0_ := Aside0.mk (below_step (bl0_ HB) hb); have n1_ := Aside0.mk (hbox); have n2_ := Aside0.mk ((by rw [hg]; exact (below_size (bl0_ HB)) : w.heap.size ≤ gb357)); have n3_ := Aside0.mk ((by rw [hg]; exact (below_size (bl0_ HB)) : w.heap.size ≤ gb357)); clear HB; have HB := n0_; have BK357 := n1_; have GW357 := n2_; have GE357 := n3_; clear n0_ n1_ n2_ n3_; clear hb hbox hg) | ((with_reducible refine gate_dst (N := 4) rfl ?_); refine bx_ (N := 4) (cs := #[.slice none 0 0, .int .i64 0]) (t := 30) ?_; intro gb358 hg w117 hbox hb; have n0_ := Aside0.mk (blk_below (g := gb357) (bk_ BK357) hb); have n1_ := Aside0.mk (below_step (bl1_ HB GE357) hb); have n2_ := Aside0.mk (hbox); have n3_ := Aside0.mk ((by rw [hg]; exact (below_size (bl1_ HB GE357)) : w.heap.size ≤ gb358)); have n4_ := Aside0.mk ((by rw [hg]; exact (below_size (bl1_ HB GE357)) : w.heap.size ≤ gb358)); have n5_ := Aside0.mk ((by rw [hg]; exact Nat.ne_of_lt (blk_lt (g := gb357) (bk_ BK357)) : gb357 ≠ gb358)); have n6_ := Aside0.mk ((by rw [hg]; exact Nat.ne_of_gt (blk_lt (g := gb357) (bk_ BK357)) : gb358 ≠ gb357)); clear BK357; clear HB; have BK357 := n0_; have HB := n1_; have BK358 := n2_; have GW358 := n3_; have GE358 := n4_; have NB357_358 := n5_; have NB358_357 := n6_; clear n0_ n1_ n2_ n3_ n4_ n5_ n6_; clear hb hbox hg; have hnb118 := NB357_358.out; have hnc118 := NB358_357.out; refine cz7_ BK357.out ?_; intro hcz119_0 hcz119_1 hcz119_2 hcz119_3 hcz119_4 hcz119_5 hcz119_6 hfz119_0 hfz119_1 hfz119_2 hfz119_3 hfz119_4 hfz119_5 hfz119_6) | ((with_reducible refine gate_callee (f := 29) rfl ?_); refine goesL_ (some 11) rfl rfl Try.func29 (by kernel_rfl) rfl #[.agg #[.int .i64 a0_0, .int .i64 a0_1, .int .i64 a0_2, .slice A0_3 l0_3.length c0_3, .int .i64 a0_4, .int .i64 a0_5, .int .i64 a0_6]] rfl ar_ ?_; (with_reducible refine (pdu_Check.calls k a0_0 a0_1 a0_2 _ _ l0_3 a0_4 a0_5 a0_6 t359 _ ?side1 ?side2 A3.out).mono ?_); (case side1 => exact sc_ (Kd.C_below HR0_3.out HB.out)); (case side2 => exact HC0_3.out); rintro e w120 ⟨rfl, hb⟩; refine ⟨_, rfl, ?_⟩; have n0_ := Aside0.mk (blk_below (g := gb357) (bk_ BK357) hb); have n1_ := Aside0.mk (blk_below (g := gb358) (bk_ BK358) hb); have n2_ := Aside0.mk (below_step (bl2_ HB GE357 GE358) hb); clear BK357; clear BK358; clear HB; have BK357 := n0_; have BK358 := n1_; have HB := n2_; clear n0_ n1_ n2_; (try clear hb); (try clear hb2); (try clear hk); (try clear hi); refine cz2_ BK358.out ?_; intro hcz121_0 hcz121_1 hfz121_0 hfz121_1))
  refine bodyPost_ret (results_ct rfl _ _ gb358 30 #[.slice none 0 0, .int .i64 0] (0, 0) _ rfl (by (with_reducible repeat (first | refine blk_drewN ?_ _ | refine blk_drew ?_ | refine blk_alloc ?_ _)); refine blk_put (cs := #[.slice none 0 0, .int .i64 0]) ?_ 1 _ rfl; (with_reducible repeat (first | refine blk_drewN ?_ _ | refine blk_drew ?_ | refine blk_alloc ?_ _)); refine blk_put (cs := #[.slice none 0 0, .int .i64 0]) ?_ 0 _ rfl; (with_reducible repeat (first | refine blk_drewN ?_ _ | refine blk_drew ?_ | refine blk_alloc ?_ _)); exact BK358.out) Try.underlying30 rfl (by kernel_rfl)) rfl ?_
  exact ⟨_, er_, by first | exact Kd.R_nil _ _ _ _ _ | exact Kd.N_nil _ _ _ _ _ | exact Kd.V_nil _ _ _ _ _ | exact Kd.Q_nil _ _ _ _ _ | exact Kd.S_nil _ _ _ _ _, bl2_ HB GE357 GE358⟩
end Go.Proofs.Ytocicifgglkaeaa.PR
end

section
namespace Go.Proofs.Ytocicifgglkaeaa.Mth
open Go.RowKit Go.Proofs.YtocicifgglkaeaaW.PrintWords Go.Proofs.YtocicifgglkaeaaW.PrintLast Go.Proofs.YtocicifgglkaeaaW.PrintMore Go.Proofs.Ytocicifgglkaeaa.Ext Go.Proofs.Ytocicifgglkaeaa.ExtF Go.Proofs.Ytocicifgglkaeaa.PP Go.Proofs.Ytocicifgglkaeaa.PQ Go.Proofs.Ytocicifgglkaeaa.ExtM Go.Proofs.Ytocicifgglkaeaa.MathP Go.Proofs.Ytocicifgglkaeaa.PR
set_option linter.unusedVariables false
set_option linter.unusedSimpArgs false
theorem join_bytes (x y : Int) (hx : 0 ≤ x ∧ x < 256) (hy : 0 ≤ y ∧ y < 256) : Go.bits .or .i64 (wrap64 ((wrap64 x) * 256)) (wrap64 y) = 256 * x + y := by
 rw [wrap64_id x (by omega) (by omega), wrap64_id y (by omega) (by omega), wrap64_id (x * 256) (by omega) (by omega)]
 obtain ⟨m, rfl⟩ := Int.eq_ofNat_of_zero_le hx.1
 obtain ⟨n, rfl⟩ := Int.eq_ofNat_of_zero_le hy.1
 exact (show ∀ m n : Fin 256, Go.bits .or .i64 ((m.1 : Int) * 256) (n.1 : Int) = 256 * (m.1 : Int) + (n.1 : Int) by decide +kernel) ⟨m, by omega⟩ ⟨n, by omega⟩
theorem bytes_drop {l : List Int} (hb : Bytes l) (n : Nat) : Bytes (l.drop n) := fun x hx => hb x (List.mem_of_mem_drop hx)
theorem rd_drop (l : List Int) (n i : Nat) : rd (l.drop n) (i : Int) = rd l ((n + i : Nat) : Int) := by
 unfold rd
 rw [Int.toNat_natCast, Int.toNat_natCast, List.getD_eq_getElem?_getD, List.getD_eq_getElem?_getD, List.getElem?_drop]
theorem at_f (l : List Int) (hb : Bytes l) (hl : l.length ≤ 1000000000) (i : Nat) (h : i + 1 < l.length) : wire_At.f l (i : Int) = some (256 * rd l (i : Int) + rd l ((i + 1 : Nat) : Int), 0) := by
 unfold wire_At.f
 have hw : wrap64 ((i : Int) + 1) = ((i + 1 : Nat) : Int) := by rw [wrap64_id _ (by omega) (by omega)]; omega
 rw [if_neg (by omega), wrap64_id ((l.length : Int) - 2) (by omega) (by omega), if_neg (by omega), if_pos (by omega), if_pos (by omega), hw, if_pos (by omega), if_pos (by omega), join_bytes _ _ (bytes_rd hb _) (bytes_rd hb _)]
def wordsOf (l : List Int) : List Int := (List.range (l.length / 2)).map fun j => 256 * rd l ((2 * j : Nat) : Int) + rd l ((2 * j + 1 : Nat) : Int)
theorem wordsOf_len (l : List Int) : (wordsOf l).length = l.length / 2 := by simp [wordsOf]
theorem pwords_l0 (l : List Int) (hb : Bytes l) (hl : l.length ≤ 1000000000) : ∀ (d j k : Nat), j + d = l.length / 2 → d + 1 ≤ k →
 pdu_words.l0 k l ((List.range j).map fun j => 256 * rd l ((2 * j : Nat) : Int) + rd l ((2 * j + 1 : Nat) : Int)) ((2 * j : Nat) : Int) = some (wordsOf l)
 | 0, j, k, hj, hk => by
  obtain ⟨k, rfl⟩ := Nat.exists_eq_add_of_le' (show 1 ≤ k by omega)
  unfold pdu_words.l0
  rw [wrap64_id _ (by omega) (by omega), if_neg (by omega)]
  unfold wordsOf
  rw [← hj, Nat.add_zero]
 | d + 1, j, k, hj, hk => by
  obtain ⟨k, rfl⟩ := Nat.exists_eq_add_of_le' (show 1 ≤ k by omega)
  unfold pdu_words.l0
  have hw : wrap64 (((2 * j : Nat) : Int) + 2) = ((2 * (j + 1) : Nat) : Int) := by rw [wrap64_id _ (by omega) (by omega)]; omega
  rw [wrap64_id _ (by omega) (by omega), if_pos (by omega), at_f l hb hl (2 * j) (by omega), Option.bind_some, if_pos (by simp; omega), hw]
  have := pwords_l0 l hb hl d (j + 1) k (by omega) (by omega)
  rw [List.range_succ, List.map_append] at this
  exact this
theorem pwords_f (l : List Int) (hb : Bytes l) (hl : l.length ≤ 1000000000) (k : Nat) (hk : l.length + 1 ≤ k) : pdu_words.f k l = some (wordsOf l) := by
 unfold pdu_words.f
 exact pwords_l0 l hb hl (l.length / 2) 0 k (by omega) (by omega)
theorem number_f (l : List Int) (hb : Bytes l) (h : 2 ≤ l.length) : basculeref01_Number.f l = some (256 * rd l 0 + rd l 1) := by
 unfold basculeref01_Number.f
 have h0 := bytes_rd hb 0
 have h1 := bytes_rd hb 1
 rw [if_pos (by omega), if_pos (by omega), wrap64_id (rd l 0) (by omega) (by omega), wrap64_id (rd l 1) (by omega) (by omega), wrap64_id (256 * rd l 0) (by omega) (by omega), wrap64_id (256 * rd l 0 + rd l 1) (by omega) (by omega)]
theorem number_drop (l : List Int) (hb : Bytes l) (n : Nat) (h : n + 2 ≤ l.length) : basculeref01_Number.f (l.drop n) = some (256 * rd l (n : Int) + rd l ((n + 1 : Nat) : Int)) := by
 rw [number_f _ (bytes_drop hb n) (by simp; omega)]
 have h0 := rd_drop l n 0
 have h1 := rd_drop l n 1
 rw [show rd (l.drop n) 0 = _ from h0, show rd (l.drop n) 1 = _ from h1]
 rfl
theorem rread_l0 (l : List Int) (hb : Bytes l) (hl : l.length ≤ 1000000000) : ∀ (d j k : Nat), j + d = l.length / 2 → d + 1 ≤ k →
 basculeref03_read.l0 k l ((List.range j).map fun j => 256 * rd l ((2 * j : Nat) : Int) + rd l ((2 * j + 1 : Nat) : Int)) ((2 * j : Nat) : Int) = some (wordsOf l)
 | 0, j, k, hj, hk => by
  obtain ⟨k, rfl⟩ := Nat.exists_eq_add_of_le' (show 1 ≤ k by omega)
  unfold basculeref03_read.l0
  rw [wrap64_id _ (by omega) (by omega), if_neg (by omega)]
  unfold wordsOf
  rw [← hj, Nat.add_zero]
 | d + 1, j, k, hj, hk => by
  obtain ⟨k, rfl⟩ := Nat.exists_eq_add_of_le' (show 1 ≤ k by omega)
  unfold basculeref03_read.l0
  have hw : wrap64 (((2 * j : Nat) : Int) + 2) = ((2 * (j + 1) : Nat) : Int) := by rw [wrap64_id _ (by omega) (by omega)]; omega
  rw [wrap64_id _ (by omega) (by omega), if_pos (by omega), if_pos (by omega), if_pos (by omega), Int.toNat_natCast, number_drop l hb (2 * j) (by omega), Option.bind_some, if_pos (by simp; omega), hw]
  have := rread_l0 l hb hl d (j + 1) k (by omega) (by omega)
  rw [List.range_succ, List.map_append] at this
  exact this
theorem rread_f (l : List Int) (hb : Bytes l) (hl : l.length ≤ 1000000000) (k : Nat) (hk : l.length + 1 ≤ k) : basculeref03_read.f k l = some (wordsOf l) := by
 unfold basculeref03_read.f
 exact rread_l0 l hb hl (l.length / 2) 0 k (by omega) (by omega)
theorem rd_nat {l : List Int} (i : Nat) (h : i < l.length) : rd l (i : Int) = l[i] := by simp [rd, List.getElem?_eq_getElem h]
theorem str_one {l m : List Int} (hl : Bytes l) (hm : Bytes m) (h2 : l.map (fun n => UInt8.ofNat n.toNat) = m.map (fun n => UInt8.ofNat n.toNat)) : l = m := by
 have back : ∀ {x : List Int}, Bytes x → (x.map (fun n => UInt8.ofNat n.toNat)).map (fun b => (b.toNat : Int)) = x := by
  intro x hx
  rw [List.map_map]
  conv => rhs; rw [← List.map_id x]
  apply List.map_congr_left
  intro n hn
  have := hx n hn
  simp only [Function.comp, id]
  rw [UInt8.toNat_ofNat']
  omega
 rw [← back hl, ← back hm, h2]
theorem str_eq {l m : List Int} (hl : Bytes l) (hm : Bytes m) : ((strOfNums l).toList = (strOfNums m).toList) ↔ l = m := by
 constructor
 ·intro h
  rw [ByteArray.toList_eq, ByteArray.toList_eq, strOfNums_data, strOfNums_data] at h
  exact str_one hl hm h
 ·intro h; rw [h]
theorem str_beq {l m : List Int} (hl : Bytes l) (hm : Bytes m) : ((strOfNums l).toList == (strOfNums m).toList) = decide (l = m) := by
 rw [Bool.eq_iff_iff]
 simp only [beq_iff_eq, decide_eq_true_eq]
 exact str_eq hl hm
theorem lays_bytes {l : List Int} (hw : Words l) : Bytes (lays l) := by
 intro x hx
 unfold lays at hx
 obtain ⟨n, hn, hx⟩ := List.mem_flatMap.1 hx
 have := hw n hn
 simp only [List.mem_cons, List.not_mem_nil, or_false] at hx
 rcases hx with rfl | rfl <;> omega
theorem bytes_app {a b : List Int} (ha : Bytes a) (hb : Bytes b) : Bytes (a ++ b) := by
 intro x hx
 rcases List.mem_append.1 hx with h | h
 ·exact ha x h
 ·exact hb x h
theorem bytes_cons {a : Int} {b : List Int} (ha : 0 ≤ a ∧ a < 256) (hb : Bytes b) : Bytes (a :: b) := by
 intro x hx
 rcases List.mem_cons.1 hx with rfl | h
 ·exact ha
 ·exact hb x h
theorem bytes_nil : Bytes [] := by intro x hx; cases hx
theorem packs_bytes {l : List Int} (hb : Bits l) : Bytes (packs l) := by
 intro x hx
 unfold packs at hx
 obtain ⟨j, _, rfl⟩ := List.mem_map.1 hx
 have := part_range hb (8 * j) 8
 omega
theorem counted_bytes {l : List Int} (hb : Bytes l) : Bytes ((l.length : Int) % 256 :: l) := bytes_cons (by omega) hb
theorem reqB_bytes {fn a1 a2 : Int} {l : List Int} {a4 a5 a6 : Int} (I : MayIs fn a1 a2 l a4 a5 a6) : Bytes (reqB fn a1 a2 l a4 a5 a6) := by
 have hlen := I.len
 have ha2 : (¬ (fn = 5 ∨ fn = 6 ∨ fn = 22)) → 0 ≤ a2 ∧ a2 ≤ 65535 := by
  intro h
  have := I.fns
  by_cases c : fn = 15 ∨ fn = 16
  ·have := I.cntl c; omega
  ·have := I.cnt (by omega); omega
 unfold reqB
 refine bytes_app (bytes_app (bytes_cons (by omega) bytes_nil) (lays_bytes (words1 I.addr))) ?_
 unfold tailB
 split
 ·next c =>
  have hb := bits_rd (I.bits (Or.inl c)) 0
  exact lays_bytes (words1 (by omega))
 split
 ·next c =>
  have h1 := I.one (Or.inr c)
  have hlt : 0 < l.length := by omega
  have hrd : rd l 0 = l[0] := by simp [rd, List.getElem?_eq_getElem hlt]
  exact lays_bytes (words1 (by rw [hrd]; exact I.wrds (Or.inl c) _ (List.getElem_mem hlt)))
 split
 ·exact lays_bytes (words2 I.m.1 I.m.2)
 split
 ·next c => exact bytes_app (lays_bytes (words1 (ha2 (by omega)))) (counted_bytes (packs_bytes (I.bits (Or.inr c))))
 split
 ·next c => exact bytes_app (lays_bytes (words3 (ha2 (by omega)) I.tow (by omega))) (counted_bytes (lays_bytes (I.wrds (by omega))))
 split
 ·next c => exact bytes_app (lays_bytes (words1 (ha2 (by omega)))) (counted_bytes (lays_bytes (I.wrds (by omega))))
 ·exact lays_bytes (words1 (ha2 (by omega)))
theorem reqB_len {fn a1 a2 : Int} {l : List Int} {a4 a5 a6 : Int} (I : MayIs fn a1 a2 l a4 a5 a6) : (reqB fn a1 a2 l a4 a5 a6).length =
 if fn = 15 then 6 + (l.length + 7) / 8 else if fn = 16 then 6 + 2 * l.length else if fn = 22 then 7 else if fn = 23 then 10 + 2 * l.length else 5 := by
 have hfn := I.fns
 unfold reqB tailB
 rcases hfn with rfl | rfl | rfl | rfl | rfl | rfl | rfl | rfl | rfl | rfl <;> simp [lays_len, packs_len] <;> omega
structure AnsIs (fn a2 : Int) (al : List Int) (code : Int) : Prop where
 cd : 0 ≤ code ∧ code ≤ 255
 none : code ≠ 0 → al = []
 len : code = 0 → fn = 1 ∨ fn = 2 ∨ fn = 3 ∨ fn = 4 ∨ fn = 23 → (al.length : Int) = a2
 bits : code = 0 → fn = 1 ∨ fn = 2 → Bits al
 wrds : code = 0 → fn = 3 ∨ fn = 4 ∨ fn = 23 → Words al
 nov : code = 0 → ¬ (fn = 1 ∨ fn = 2 ∨ fn = 3 ∨ fn = 4 ∨ fn = 23) → al = []
end Go.Proofs.Ytocicifgglkaeaa.Mth
end

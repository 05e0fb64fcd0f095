/- The words, contracts and walks that this claim leans on, put together by a program of this session (part 5). -/
import Derived.Test.YtocicifgglkaeaaZP4
section
namespace Go.Proofs.Ytocicifgglkaeaa.PR
open Go.RowKit Go.Proofs.YtocicifgglkaeaaW.PrintWords Go.Proofs.YtocicifgglkaeaaW.PrintLast Go.Proofs.YtocicifgglkaeaaW.PrintMore
attribute [local go_sem] max2_int min2_int max_two min_two max_three min_three max_four min_four   
set_option linter.unusedVariables false
set_option linter.unusedSimpArgs false
open Go.Proofs.Ytocicifgglkaeaa.Ext Go.Proofs.Ytocicifgglkaeaa.PP Go.Proofs.Ytocicifgglkaeaa.ExtF Go.Proofs.Ytocicifgglkaeaa.PQ Go.Proofs.Ytocicifgglkaeaa.ExtM
mutual
def basculeref03_Parse.j1 : Nat → List Int → Int → Int → Int → List Int → Int → Int → Int → Option (Int × Int × Int × List Int × Int × Int × Int × Bool)
 | 0, _, _, _, _, _, _, _, _ => none
 | k + 1, x0, x242000, x242001, x242002, x242003, x242004, x242005, x242006 => (basculeref03_May.f x242000 x242001 x242002 x242003 x242004 x242005 x242006).bind fun t266 => (if t266 = true then ((basculeref03_Bytes.f k x242000 x242001 x242002 x242003 x242004 x242005 x242006).bind fun t267 => (if (strOfNums t267).toList = (strOfNums x0).toList then (some (x242000, x242001, x242002, x242003, x242004, x242005, x242006, true)) else (some (0, 0, 0, ([] : List Int), 0, 0, 0, false)))) else (some (0, 0, 0, ([] : List Int), 0, 0, 0, false)))
def basculeref03_Parse.j0 : Nat → List Int → Int → Int → Bool → Int → Int → Int → Int → Int → Int → Option (Int × Int × Int × List Int × Int × Int × Int × Bool)
 | 0, _, _, _, _, _, _, _, _, _, _ => none
 | k + 1, x0, x5, x22, x23, x242000, x242001, x242002, x242004, x242005, x242006 => if x23 = true then (basculeref03_Parse.j1 k x0 x242000 x242001 x5 ([] : List Int) x242004 x242005 x242006) else (if x22 = 5 then (basculeref03_Parse.j1 k x0 x242000 x242001 x242002 (([wrap64 (Int.tdiv x5 65280)] : List Int)) x242004 x242005 x242006) else (if x22 = 6 then (basculeref03_Parse.j1 k x0 x242000 x242001 x242002 (([x5] : List Int)) x242004 x242005 x242006) else (if x22 = 15 then (if (x0.length : Int) < 6 then (some (0, 0, 0, ([] : List Int), 0, 0, 0, false)) else (if x5 > (wrap64 (8 * (wrap64 ((x0.length : Int) - 6)))) then (some (0, 0, 0, ([] : List Int), 0, 0, 0, false)) else (if 6 ≤ (x0.length : Int) then ((basculeref01_Unpack.f k (x0.drop 6) x5).bind fun t251 => (basculeref03_Parse.j1 k x0 x242000 x242001 x5 t251 x242004 x242005 x242006)) else (none)))) else (if x22 = 16 then (if (x0.length : Int) < 6 then (some (0, 0, 0, ([] : List Int), 0, 0, 0, false)) else (if 6 ≤ (x0.length : Int) then ((basculeref03_read.f k (x0.drop 6)).bind fun t255 => (basculeref03_Parse.j1 k x0 x242000 x242001 x5 t255 x242004 x242005 x242006)) else (none))) else (if x22 = 22 then (if (x0.length : Int) < 7 then (some (0, 0, 0, ([] : List Int), 0, 0, 0, false)) else (if 5 ≤ (x0.length : Int) then ((basculeref01_Number.f (x0.drop 5)).bind fun t259 => (basculeref03_Parse.j1 k x0 x242000 x242001 x242002 ([] : List Int) x242004 x5 t259)) else (none))) else (if x22 = 23 then (if (x0.length : Int) < 10 then (some (0, 0, 0, ([] : List Int), 0, 0, 0, false)) else (if 5 ≤ (x0.length : Int) then ((basculeref01_Number.f (x0.drop 5)).bind fun t261 => (if 10 ≤ (x0.length : Int) then ((basculeref03_read.f k (x0.drop 10)).bind fun t263 => (basculeref03_Parse.j1 k x0 x242000 x242001 x5 t263 t261 x242005 x242006)) else (none))) else (none))) else (basculeref03_Parse.j1 k x0 x242000 x242001 x242002 ([] : List Int) x242004 x242005 x242006)))))))
end
def basculeref03_Parse.f (k : Nat) (l0 : List Int) : Option (Int × Int × Int × List Int × Int × Int × Int × Bool) := if (l0.length : Int) < 5 then (some (0, 0, 0, ([] : List Int), 0, 0, 0, false)) else (if 0 < (l0.length : Int) then (if 1 ≤ (l0.length : Int) then ((basculeref01_Number.f (l0.drop 1)).bind fun t240 => (if 3 ≤ (l0.length : Int) then ((basculeref01_Number.f (l0.drop 3)).bind fun t243 => (if (wrap64 (rd l0 0)) = 1 then (basculeref03_Parse.j0 k l0 t243 (wrap64 (rd l0 0)) ((wrap64 (rd l0 0)) == 1) (wrap64 (rd l0 0)) t240 0 0 0 0) else (if (wrap64 (rd l0 0)) = 2 then (basculeref03_Parse.j0 k l0 t243 (wrap64 (rd l0 0)) ((wrap64 (rd l0 0)) == 2) (wrap64 (rd l0 0)) t240 0 0 0 0) else (if (wrap64 (rd l0 0)) = 3 then (basculeref03_Parse.j0 k l0 t243 (wrap64 (rd l0 0)) ((wrap64 (rd l0 0)) == 3) (wrap64 (rd l0 0)) t240 0 0 0 0) else (basculeref03_Parse.j0 k l0 t243 (wrap64 (rd l0 0)) ((wrap64 (rd l0 0)) == 4) (wrap64 (rd l0 0)) t240 0 0 0 0))))) else (none))) else (none)) else (none))
theorem basculeref03_Parse.mono_l : ∀ k, (∀ y0 y1 y2 y3 y4 y5 y6 y7, LeO (basculeref03_Parse.j1 k y0 y1 y2 y3 y4 y5 y6 y7) (basculeref03_Parse.j1 (k + 1) y0 y1 y2 y3 y4 y5 y6 y7)) ∧ (∀ y0 y1 y2 y3 y4 y5 y6 y7 y8 y9, LeO (basculeref03_Parse.j0 k y0 y1 y2 y3 y4 y5 y6 y7 y8 y9) (basculeref03_Parse.j0 (k + 1) y0 y1 y2 y3 y4 y5 y6 y7 y8 y9))
 | 0 => ⟨fun _ _ _ _ _ _ _ _ r h => by simp [basculeref03_Parse.j1] at h, fun _ _ _ _ _ _ _ _ _ _ r h => by simp [basculeref03_Parse.j0] at h⟩
 | k + 1 => by
  obtain ⟨ih0, ih1⟩ := basculeref03_Parse.mono_l k
  refine ⟨?_, ?_⟩
  ·intro y0 y1 y2 y3 y4 y5 y6 y7
   unfold basculeref03_Parse.j1
   repeat' first
   | (with_reducible exact ih0 _ _ _ _ _ _ _ _)
   | (with_reducible exact ih1 _ _ _ _ _ _ _ _ _ _)
   | (with_reducible exact basculeref01_Unpack.mono _ _ _)
   | (with_reducible exact basculeref03_Bytes.mono _ _ _ _ _ _ _ _)
   | (with_reducible exact basculeref03_read.mono _ _)
   | (with_reducible exact LeO.refl _)
   | (with_reducible exact LeO.none _)
   | (with_reducible refine LeO.ite ?_ ?_)
   | (with_reducible refine LeO.bind ?_ (fun _ => ?_))
   | exact ih0 _ _ _ _ _ _ _ _
   | exact ih1 _ _ _ _ _ _ _ _ _ _
   | exact basculeref01_Unpack.mono _ _ _
   | exact basculeref03_Bytes.mono _ _ _ _ _ _ _ _
   | exact basculeref03_read.mono _ _
   | exact LeO.none _
   | refine LeO.ite ?_ ?_
   | refine LeO.bind ?_ (fun _ => ?_)
  ·intro y0 y1 y2 y3 y4 y5 y6 y7 y8 y9
   unfold basculeref03_Parse.j0
   repeat' first
   | (with_reducible exact ih0 _ _ _ _ _ _ _ _)
   | (with_reducible exact ih1 _ _ _ _ _ _ _ _ _ _)
   | (with_reducible exact basculeref01_Unpack.mono _ _ _)
   | (with_reducible exact basculeref03_Bytes.mono _ _ _ _ _ _ _ _)
   | (with_reducible exact basculeref03_read.mono _ _)
   | (with_reducible exact LeO.refl _)
   | (with_reducible exact LeO.none _)
   | (with_reducible refine LeO.ite ?_ ?_)
   | (with_reducible refine LeO.bind ?_ (fun _ => ?_))
   | exact ih0 _ _ _ _ _ _ _ _
   | exact ih1 _ _ _ _ _ _ _ _ _ _
   | exact basculeref01_Unpack.mono _ _ _
   | exact basculeref03_Bytes.mono _ _ _ _ _ _ _ _
   | exact basculeref03_read.mono _ _
   | exact LeO.none _
   | refine LeO.ite ?_ ?_
   | refine LeO.bind ?_ (fun _ => ?_)
theorem basculeref03_Parse.mono : ∀ a0 k, LeO (basculeref03_Parse.f k a0) (basculeref03_Parse.f (k + 1) a0) := by
 intro a0 k
 obtain ⟨ih0, ih1⟩ := basculeref03_Parse.mono_l k
 unfold basculeref03_Parse.f
 repeat' first
  | (with_reducible exact ih0 _ _ _ _ _ _ _ _)
  | (with_reducible exact ih1 _ _ _ _ _ _ _ _ _ _)
  | (with_reducible exact basculeref01_Unpack.mono _ _ _)
  | (with_reducible exact basculeref03_Bytes.mono _ _ _ _ _ _ _ _)
  | (with_reducible exact basculeref03_read.mono _ _)
  | (with_reducible exact LeO.refl _)
  | (with_reducible exact LeO.none _)
  | (with_reducible refine LeO.ite ?_ ?_)
  | (with_reducible refine LeO.bind ?_ (fun _ => ?_))
  | exact ih0 _ _ _ _ _ _ _ _
  | exact ih1 _ _ _ _ _ _ _ _ _ _
  | exact basculeref01_Unpack.mono _ _ _
  | exact basculeref03_Bytes.mono _ _ _ _ _ _ _ _
  | exact basculeref03_read.mono _ _
  | exact LeO.none _
  | refine LeO.ite ?_ ?_
  | refine LeO.bind ?_ (fun _ => ?_)
def basculeref03_Parse.T3 : Bool × List (List Nat × List Nat) := (true, [([], []), ([0], [0]), ([1], [1]), ([2], [2]), ([], []), ([4], [4]), ([5], [5]), ([3, 6], [3, 6]), ([], []), ([8, 7, 6, 0, 1, 2, 3, 4, 5, 6, 7, 8], [7, 8])])
def basculeref03_Parse.B3 : List Nat := [0, 1, 3, 7, 0, 16, 48, 127, 0, 511]
theorem basculeref03_Parse.tab3 : rtab .any (opsOf Try.f35 3) = basculeref03_Parse.T3 := by kernel_rfl
theorem basculeref03_Parse.bits3 : waitsOk basculeref03_Parse.T3.2 basculeref03_Parse.B3 = true := by kernel_rfl
def basculeref03_Parse.T36 : Bool × List (List Nat × List Nat) := (true, [([], []), ([0], [0]), ([1], [1]), ([2, 1], [2]), ([3], [3]), ([4, 3, 3], [3, 4]), ([5, 3], [3, 5]), ([3], [3]), ([7, 3], [3, 7]), ([6, 8, 3], [3, 6, 8]), ([3, 9], [3, 9])])
def basculeref03_Parse.B36 : List Nat := [0, 1, 3, 7, 15, 31, 63, 15, 143, 511, 1023]
theorem basculeref03_Parse.tab36 : rtab .any (opsOf Try.f35 36) = basculeref03_Parse.T36 := by kernel_rfl
theorem basculeref03_Parse.bits36 : waitsOk basculeref03_Parse.T36.2 basculeref03_Parse.B36 = true := by kernel_rfl
set_option maxHeartbeats 8000000 in
set_option maxRecDepth 100000 in
theorem basculeref03_Parse.calls (k : Nat) (A0 : Option Addr) (c0 : Nat) (l0 : List Int) (r1 : Int) (r2 : Int) (r3 : Int) (r4 : List Int) (r5 : Int) (r6 : Int) (r7 : Int) (r8 : Bool) (w : World) (hr0 : Kd.C (Kd.int .u8) w A0 l0.length l0) (hc0 : l0.length ≤ c0) (h : basculeref03_Parse.f k l0 = some (r1, r2, r3, r4, r5, r6, r7, r8)) :
 Calls Try.prog 35 #[.slice A0 l0.length c0] w fun e w' => ∃ v3_ : Value, e = .returned (.tuple #[.agg #[.int .i64 r1, .int .i64 r2, .int .i64 r3, v3_, .int .i64 r5, .int .i64 r6, .int .i64 r7], .bool r8]) ∧ Kd.R (Kd.int .i64) 3 w' w.heap.size (fun _ => True) v3_ r4 ∧ Below w.heap.size w w' := by
 have hu24 := Try.underlying24
 have HR0 := Aside0.mk hr0
 have HC0 := Aside0.mk hc0
 clear hr0 hc0
 have HB := Aside0.mk (Below.refl w.heap.size w)
 have H : (if (l0.length : Int) < 5 then (some (0, 0, 0, ([] : List Int), 0, 0, 0, false)) else (if 0 < (l0.length : Int) then (if 1 ≤ (l0.length : Int) then ((basculeref01_Number.f (l0.drop 1)).bind fun t240 => (if 3 ≤ (l0.length : Int) then ((basculeref01_Number.f (l0.drop 3)).bind fun t243 => (if (wrap64 (rd l0 0)) = 1 then (basculeref03_Parse.j0 k l0 t243 (wrap64 (rd l0 0)) ((wrap64 (rd l0 0)) == 1) (wrap64 (rd l0 0)) t240 0 0 0 0) else (if (wrap64 (rd l0 0)) = 2 then (basculeref03_Parse.j0 k l0 t243 (wrap64 (rd l0 0)) ((wrap64 (rd l0 0)) == 2) (wrap64 (rd l0 0)) t240 0 0 0 0) else (if (wrap64 (rd l0 0)) = 3 then (basculeref03_Parse.j0 k l0 t243 (wrap64 (rd l0 0)) ((wrap64 (rd l0 0)) == 3) (wrap64 (rd l0 0)) t240 0 0 0 0) else (basculeref03_Parse.j0 k l0 t243 (wrap64 (rd l0 0)) ((wrap64 (rd l0 0)) == 4) (wrap64 (rd l0 0)) t240 0 0 0 0))))) else (none))) else (none)) else (none))) = some (r1, r2, r3, r4, r5, r6, r7, r8) := h
 clear h
 by_cases c2 : (l0.length : Int) < 5
 ·rw [if_pos c2] at H
  have c2b0 : decide ((l0.length : Int) < 5) = true := decide_eq_true c2
  have c2b1 : decide (l0.length < 5) = true := decide_eq_true (by omega)
  clear c2
  simp only [Option.some.injEq, Prod.mk.injEq] at H
  obtain ⟨rfl, rfl, rfl, rfl, rfl, rfl, rfl, rfl⟩ := H
  go_enter Try.func35, Try.ntmps35
  go_wp2_with (first | ((with_reducible refine gate_dst (N := 2) rfl ?_); (try (refine gate_guard (by rfl) ?_; dsimp only)); refine bx_ (N := 2) (cs := #[.int .i64 0, .int .i64 0, .int .i64 0, .slice none 0 0, .int .i64 0, .int .i64 0, .int .i64 0]) (t := 24) ?_; intro gb237 hg w3 hbox hb; have n0_ := Aside0.mk (below_step (bl0_ HB) hb); have n1_ := Aside0.mk (hbox); have n2_ := Aside0.mk ((by rw [hg]; exact (below_size (bl0_ HB)) : w.heap.size ≤ gb237)); have n3_ := Aside0.mk ((by rw [hg]; exact (below_size (bl0_ HB)) : w.heap.size ≤ gb237)); clear HB; have HB := n0_; have BK237 := n1_; have GW237 := n2_; have GE237 := n3_; clear n0_ n1_ n2_ n3_; clear hb hbox hg; refine cz7_ BK237.out ?_; intro hcz4_0 hcz4_1 hcz4_2 hcz4_3 hcz4_4 hcz4_5 hcz4_6 hfz4_0 hfz4_1 hfz4_2 hfz4_3 hfz4_4 hfz4_5 hfz4_6))
  refine bodyPost_ret (results_ct rfl _ _ gb237 24 #[.int .i64 0, .int .i64 0, .int .i64 0, .slice none 0 0, .int .i64 0, .int .i64 0, .int .i64 0] (0, 0) _ rfl (by (with_reducible repeat (first | refine blk_drewN ?_ _ | refine blk_drew ?_ | refine blk_alloc ?_ _)); refine blk_put (cs := #[.int .i64 0, .int .i64 0, .int .i64 0, .slice none 0 0, .int .i64 0, .int .i64 0, .int .i64 0]) ?_ 6 _ rfl; (with_reducible repeat (first | refine blk_drewN ?_ _ | refine blk_drew ?_ | refine blk_alloc ?_ _)); refine blk_put (cs := #[.int .i64 0, .int .i64 0, .int .i64 0, .slice none 0 0, .int .i64 0, .int .i64 0, .int .i64 0]) ?_ 5 _ rfl; (with_reducible repeat (first | refine blk_drewN ?_ _ | refine blk_drew ?_ | refine blk_alloc ?_ _)); refine blk_put (cs := #[.int .i64 0, .int .i64 0, .int .i64 0, .slice none 0 0, .int .i64 0, .int .i64 0, .int .i64 0]) ?_ 4 _ rfl; (with_reducible repeat (first | refine blk_drewN ?_ _ | refine blk_drew ?_ | refine blk_alloc ?_ _)); refine blk_put (cs := #[.int .i64 0, .int .i64 0, .int .i64 0, .slice none 0 0, .int .i64 0, .int .i64 0, .int .i64 0]) ?_ 3 _ rfl; (with_reducible repeat (first | refine blk_drewN ?_ _ | refine blk_drew ?_ | refine blk_alloc ?_ _)); refine blk_put (cs := #[.int .i64 0, .int .i64 0, .int .i64 0, .slice none 0 0, .int .i64 0, .int .i64 0, .int .i64 0]) ?_ 2 _ rfl; (with_reducible repeat (first | refine blk_drewN ?_ _ | refine blk_drew ?_ | refine blk_alloc ?_ _)); refine blk_put (cs := #[.int .i64 0, .int .i64 0, .int .i64 0, .slice none 0 0, .int .i64 0, .int .i64 0, .int .i64 0]) ?_ 1 _ rfl; (with_reducible repeat (first | refine blk_drewN ?_ _ | refine blk_drew ?_ | refine blk_alloc ?_ _)); refine blk_put (cs := #[.int .i64 0, .int .i64 0, .int .i64 0, .slice none 0 0, .int .i64 0, .int .i64 0, .int .i64 0]) ?_ 0 _ rfl; (with_reducible repeat (first | refine blk_drewN ?_ _ | refine blk_drew ?_ | refine blk_alloc ?_ _)); exact BK237.out) Try.underlying24 rfl (by kernel_rfl)) rfl ?_
  exact ⟨_, er_, by first | exact Kd.R_nil _ _ _ _ _ | exact Kd.N_nil _ _ _ _ _ | exact Kd.V_nil _ _ _ _ _ | exact Kd.Q_nil _ _ _ _ _ | exact Kd.S_nil _ _ _ _ _, bl1_ HB GE237⟩
 ·rw [if_neg c2] at H
  have c2b0 : decide ((l0.length : Int) < 5) = false := decide_eq_false c2
  have c2b1 : decide (l0.length < 5) = false := decide_eq_false (by omega)
  clear c2
  by_cases c5 : 0 < (l0.length : Int)
  ·rw [if_pos c5] at H
   have c5b0 : decide (0 < (l0.length : Int)) = true := decide_eq_true c5
   have c5b1 : decide (0 < l0.length) = true := decide_eq_true (by omega)
   clear c5
   by_cases c6 : 1 ≤ (l0.length : Int)
   ·rw [if_pos c6] at H
    have c6b0 := eq_true c6
    have c6b1 : decide (1 ≤ (l0.length : Int)) = true := decide_eq_true c6
    clear c6
    replace H := Option.bind_eq_some_iff.mp H
    obtain ⟨t240, A70, H⟩ := H
    replace H : (if 3 ≤ (l0.length : Int) then ((basculeref01_Number.f (l0.drop 3)).bind fun t243 => (if (wrap64 (rd l0 0)) = 1 then (basculeref03_Parse.j0 k l0 t243 (wrap64 (rd l0 0)) ((wrap64 (rd l0 0)) == 1) (wrap64 (rd l0 0)) t240 0 0 0 0) else (if (wrap64 (rd l0 0)) = 2 then (basculeref03_Parse.j0 k l0 t243 (wrap64 (rd l0 0)) ((wrap64 (rd l0 0)) == 2) (wrap64 (rd l0 0)) t240 0 0 0 0) else (if (wrap64 (rd l0 0)) = 3 then (basculeref03_Parse.j0 k l0 t243 (wrap64 (rd l0 0)) ((wrap64 (rd l0 0)) == 3) (wrap64 (rd l0 0)) t240 0 0 0 0) else (basculeref03_Parse.j0 k l0 t243 (wrap64 (rd l0 0)) ((wrap64 (rd l0 0)) == 4) (wrap64 (rd l0 0)) t240 0 0 0 0))))) else (none)) = some (r1, r2, r3, r4, r5, r6, r7, r8) := H
    have A7 := Aside0.mk A70
    clear A70
    by_cases c8 : 3 ≤ (l0.length : Int)
    ·rw [if_pos c8] at H
     have c8b0 := eq_true c8
     have c8b1 : decide (3 ≤ (l0.length : Int)) = true := decide_eq_true c8
     clear c8
     replace H := Option.bind_eq_some_iff.mp H
     obtain ⟨t243, A90, H⟩ := H
     replace H : (if (wrap64 (rd l0 0)) = 1 then (basculeref03_Parse.j0 k l0 t243 (wrap64 (rd l0 0)) ((wrap64 (rd l0 0)) == 1) (wrap64 (rd l0 0)) t240 0 0 0 0) else (if (wrap64 (rd l0 0)) = 2 then (basculeref03_Parse.j0 k l0 t243 (wrap64 (rd l0 0)) ((wrap64 (rd l0 0)) == 2) (wrap64 (rd l0 0)) t240 0 0 0 0) else (if (wrap64 (rd l0 0)) = 3 then (basculeref03_Parse.j0 k l0 t243 (wrap64 (rd l0 0)) ((wrap64 (rd l0 0)) == 3) (wrap64 (rd l0 0)) t240 0 0 0 0) else (basculeref03_Parse.j0 k l0 t243 (wrap64 (rd l0 0)) ((wrap64 (rd l0 0)) == 4) (wrap64 (rd l0 0)) t240 0 0 0 0)))) = some (r1, r2, r3, r4, r5, r6, r7, r8) := H
     have A9 := Aside0.mk A90
     clear A90
     have HC10 := Aside0.mk H
     clear H
     go_enter Try.func35, Try.ntmps35
     try go_wp2_with (first | ((with_reducible refine gate_dst (N := 2) rfl ?_); (try (refine gate_guard (by rfl) ?_; dsimp only)); refine bx_ (N := 2) (cs := #[.int .i64 0, .int .i64 0, .int .i64 0, .slice none 0 0, .int .i64 0, .int .i64 0, .int .i64 0]) (t := 24) ?_; intro gb237 hg w11 hbox hb; have n0_ := Aside0.mk (below_step (bl0_ HB) hb); have n1_ := Aside0.mk (hbox); have n2_ := Aside0.mk ((by rw [hg]; exact (below_size (bl0_ HB)) : w.heap.size ≤ gb237)); have n3_ := Aside0.mk ((by rw [hg]; exact (below_size (bl0_ HB)) : w.heap.size ≤ gb237)); clear HB; have HB := n0_; have BK237 := n1_; have GW237 := n2_; have GE237 := n3_; clear n0_ n1_ n2_ n3_; clear hb hbox hg))
     have n0_ := Aside0.mk (blk_drew BK237.out)
     have n1_ := Aside0.mk (below_drew1 HB.out)
     clear BK237
     clear HB
     have BK237 := n0_
     have HB := n1_
     clear n0_ n1_
     have p238 : 0 ≤ (0 : Int) := (by omega)
     have q238 : 0 < (l0.length : Int) := of_decide_eq_true (by first | (with_reducible assumption) | assumption)
     obtain ⟨ad238, e238, hx238_0⟩ := Kd.at_int HR0.out 0 p238 q238
     have hw238_0 := hx238_0
     (try rw [show ((0 : Int)).toNat = 0 from rfl] at hw238_0)
     (try rw [show 0 * 1 = 0 from rfl] at hw238_0)
     (try rw [Addr.add_zero'] at hw238_0)
     cases e238
     have qi238 : (0 < l0.length) = True := eq_true (by omega)
     (try rw [show ((0 : Int)).toNat = 0 from rfl] at hx238_0)
     (try rw [Addr.add_zero'] at hx238_0)
     replace hx238_0 := (HB.out.cell (World.block_lt_of_cell? w _ hx238_0)).trans hx238_0
     replace p238 := eq_true p238
     replace q238 := eq_true q238
     obtain ⟨i013, hi013, _, hsz13, _⟩ := info_parts info5
     obtain ⟨A13, hcut13, hA13, hC13⟩ := print_drop_of (P := Try.prog) (Value.int .u8) 0 58 5 .i64 Try.underlying58 hi013 hsz13 (some ad238) c0 l0 1 (by omega) (of_decide_eq_true (by first | (with_reducible assumption) | assumption)) HC0.out
     have HR239 := Aside0.mk (Kd.C_of_reads (h1 := fun _ => rfl) (hA13 _ (Kd.reads_of_C HR0.out)))
     have HC239 := Aside0.mk hC13
     clear hA13 hC13 hi013 hsz13
     refine start_ (n := 10) (S := fun w' => w'.cell? ad238 = some (.int .u8 (rd l0 0))) (ds := []) #[false, false, false, false, false, false, false, false, false, false] (by kernel_rfl) rfl rfl (((HB.out.cell (World.block_lt_of_cell? w _ hw238_0)).trans hw238_0)) (fun hHeld => ?_); refine with_tabW basculeref03_Parse.tab3 basculeref03_Parse.bits3 (fun HT_ HW_ => ?_)
     generalize w11.drew = w12 at BK237 HB HR239 hx238_0 hHeld ⊢
     refine pure_ (i := 0) (N := some 10) (v := ?_) (a' := ?_) #[true, false, false, false, false, false, false, false, false, false] rfl rfl (any_of HT_.out (by kernel_rfl)) (fun _ _ _ h => h) (Or.inl ⟨by rfl, ?_⟩) ?_ ?_
     rotate_left
     ·intro w'
      go_simp
      with_reducible rfl
     rotate_left
     ·simp only [Act.put, List.setIfInBounds_toArray, List.set_cons_zero, List.set_cons_succ, i64_w, i32_w]
      rfl
     refine pure_ (i := 1) (N := some 11) (v := ?_) (a' := ?_) #[true, true, false, false, false, false, false, false, false, false] rfl rfl (any_of HT_.out (by kernel_rfl)) (fun _ _ _ h => h) (Or.inl ⟨by rfl, ?_⟩) ?_ ?_
     rotate_left
     ·intro w'
      go_simp
      with_reducible rfl
     rotate_left
     ·simp only [Act.put, List.setIfInBounds_toArray, List.set_cons_zero, List.set_cons_succ, i64_w, i32_w]
      rfl
     refine pure_ (i := 4) (N := some 14) (v := ?_) (a' := ?_) #[true, true, false, false, true, false, false, false, false, false] rfl rfl (any_of HT_.out (by kernel_rfl)) (fun _ _ _ h => h) (Or.inl ⟨by rfl, ?_⟩) ?_ ?_
     rotate_left
     ·intro w'
      go_simp
      with_reducible rfl
     rotate_left
     ·simp only [Act.put, List.setIfInBounds_toArray, List.set_cons_zero, List.set_cons_succ, i64_w, i32_w]
      rfl
     refine pure_ (i := 5) (N := some 15) (v := ?_) (a' := ?_) #[true, true, false, false, true, true, false, false, false, false] rfl rfl (any_of HT_.out (by kernel_rfl)) (fun _ _ _ h => h) (Or.inl ⟨by rfl, ?_⟩) ?_ ?_
     rotate_left
     ·intro w'
      go_simp
      with_reducible rfl
     rotate_left
     ·simp only [Act.put, List.setIfInBounds_toArray, List.set_cons_zero, List.set_cons_succ, i64_w, i32_w]
      rfl
     refine take_ (i := 2) (N := some 12) (v := ?_) (a' := ?_) #[true, true, true, false, true, true, false, false, false, false] rfl rfl (take_ofW HT_.out HW_.out (by kernel_rfl)) (fun _ _ _ h => h) (Or.inl ⟨by rfl, ?_⟩) hHeld ?_ ?_
     rotate_left
     ·intro w' s0
      go_simp
      with_reducible rfl
     rotate_left
     ·simp only [Act.put, List.setIfInBounds_toArray, List.set_cons_zero, List.set_cons_succ, i64_w, i32_w]
      rfl
     refine pure_ (i := 3) (N := some 13) (v := ?_) (a' := ?_) #[true, true, true, true, true, true, false, false, false, false] rfl rfl (any_of HT_.out (by kernel_rfl)) (fun _ _ _ h => h) (Or.inl ⟨by rfl, ?_⟩) ?_ ?_
     rotate_left
     ·intro w'
      go_simp
      with_reducible rfl
     rotate_left
     ·simp only [Act.put, List.setIfInBounds_toArray, List.set_cons_zero, List.set_cons_succ, i64_w, i32_w]
      rfl
     refine join_ (σ := Nat) 1 #[true, true, true, true, true, true, true, true, true, false] (fun s_ => [(16, .int .i64 t240), (4, .pointer (some ⟨s_, 0, none⟩)), (17, .agg #[.int .i64 (wrap64 (rd l0 0)), .int .i64 t240, .int .i64 0, .slice none 0 0, .int .i64 0, .int .i64 0, .int .i64 0])]) (fun s_ w' => (w'.cell? ad238 = some (.int .u8 (rd l0 0))) ∧ (w'.heap[gb237]? = some (.cells #[.int .i64 0, .int .i64 0, .int .i64 0, .slice none 0 0, .int .i64 0, .int .i64 0, .int .i64 0] 24 (0, 0))) ∧ (w'.heap[s_]? = some (.cells #[.int .i64 0, .int .i64 0, .int .i64 0, .slice none 0 0, .int .i64 0, .int .i64 0, .int .i64 0] 24 (0, 0))) ∧ (w.heap.size ≤ s_) ∧ (w.heap.size ≤ s_) ∧ (gb237 ≠ s_) ∧ (s_ ≠ gb237) ∧ (Below w.heap.size w w')) ?_ ?_
     rotate_left
     ·intro hCont
      refine two_ (i := 6) (j := 8) (Ni := some 16) (Nj := some 4) #[true, true, true, true, true, true, true, false, false, false] #[true, true, true, true, true, true, false, false, true, false] rfl rfl rfl rfl (two_of HT_.out (by kernel_rfl)) (by decide) (by decide) (fun K hK => ?_) (fun K hK => ?_)
      ·skip
       refine goes_ Try.func63 (by kernel_rfl) rfl #[.slice A13 (l0.drop 1).length (c0 - 1)] (by rfl) rfl rfl (by (try simp only [List.map_toArray, List.map_cons, List.map_nil]); first | done | (rw [show (l0.drop 1).length = (l0.length - 1) from List.length_drop] <;> rfl) | rfl | (simp only [List.length_drop, List.length_take]; rfl)) ?_
       with_reducible refine (basculeref01_Number.calls _ _ (l0.drop 1) t240 _ ?side1 ?side2 A7.out).mono ?_
       (case side1 => exact sc_ (Kd.C_below HR239.out HB.out))
       (case side2 => exact HC239.out)
       rintro e w' ⟨rfl, ⟨nd, rfl⟩⟩
       refine ⟨_, rfl, ?_⟩
       refine hK.out _ _ (((HB.out.cell (World.block_lt_of_cell? w _ hw238_0)).trans hw238_0)) (fun hHeld => ?_)
       clear hK K
       refine norm_ (a' := ?_) ?_ ?_
       rotate_left
       ·show Act.put _ (some 16) _ = _
        simp only [Act.put, List.setIfInBounds_toArray, List.set_cons_zero, List.set_cons_succ, i64_w, i32_w]
        rfl
       refine pure_ (i := 7) (N := some 17) (v := ?_) (a' := ?_) #[true, true, true, true, true, true, true, true, false, false] rfl rfl (any_of HT_.out (by kernel_rfl)) (fun _ _ _ h => h) (Or.inl ⟨by rfl, ?_⟩) ?_ ?_
       rotate_left
       ·intro w'
        go_simp
        with_reducible rfl
       rotate_left
       ·simp only [Act.put, List.setIfInBounds_toArray, List.set_cons_zero, List.set_cons_succ, i64_w, i32_w]
        rfl
       refine one_ (i := 8) (N := some 4) #[true, true, true, true, true, true, true, true, true, false] rfl rfl (one_of HT_.out (by kernel_rfl)) (by decide) (fun K hK => ?_)
       refine box_step ?hg (N := 4) ?hd (cs := #[.int .i64 0, .int .i64 0, .int .i64 0, .slice none 0 0, .int .i64 0, .int .i64 0, .int .i64 0]) (t := 24) ?hr ?_; (case hd => rfl); (case hg => rfl); (case hr => first | (go_simp; done) | (go_simp; rfl))
       intro gb241 hg w14 hbox hb
       have n0_ := Aside0.mk (blk_below (g := gb237) (bk_ BK237) hb)
       have n1_ := Aside0.mk (below_step (bl1_ HB GE237) hb)
       have n2_ := Aside0.mk (hbox)
       have n3_ := Aside0.mk ((by rw [hg]; exact (below_size (bl1_ HB GE237)) : w.heap.size ≤ gb241))
       have n4_ := Aside0.mk ((by rw [hg]; exact (below_size (bl1_ HB GE237)) : w.heap.size ≤ gb241))
       have n5_ := Aside0.mk ((by rw [hg]; exact Nat.ne_of_lt (blk_lt (g := gb237) (bk_ BK237)) : gb237 ≠ gb241))
       have n6_ := Aside0.mk ((by rw [hg]; exact Nat.ne_of_gt (blk_lt (g := gb237) (bk_ BK237)) : gb241 ≠ gb237))
       clear BK237
       clear HB
       have BK237 := n0_
       have HB := n1_
       have BK241 := n2_
       have GW241 := n3_
       have GE241 := n4_
       have NB237_241 := n5_
       have NB241_237 := n6_
       clear n0_ n1_ n2_ n3_ n4_ n5_ n6_
       clear hb hbox hg
       refine hK.out _ _ (((HB.out.cell (World.block_lt_of_cell? w _ hw238_0)).trans hw238_0)) (fun hHeld => ?_)
       clear hK K
       refine norm_ (a' := ?_) ?_ ?_
       rotate_left
       ·show Act.put _ (some 4) _ = _
        simp only [Act.put, List.setIfInBounds_toArray, List.set_cons_zero, List.set_cons_succ, i64_w, i32_w]
        rfl
       exact norm_ (by simp only [putAll, Act.put, List.setIfInBounds_toArray, List.set_cons_zero, List.set_cons_succ]) (hCont (gb241) _ ⟨hHeld, (bk_ BK237), (bk_ BK241), GW241.out, GE241.out, NB237_241.out, NB241_237.out, (bl2_ HB GE237 GE241)⟩)
      ·skip
       refine box_step ?hg (N := 4) ?hd (cs := #[.int .i64 0, .int .i64 0, .int .i64 0, .slice none 0 0, .int .i64 0, .int .i64 0, .int .i64 0]) (t := 24) ?hr ?_; (case hd => rfl); (case hg => rfl); (case hr => first | (go_simp; done) | (go_simp; rfl))
       intro gb241 hg w14 hbox hb
       have n0_ := Aside0.mk (blk_below (g := gb237) (bk_ BK237) hb)
       have n1_ := Aside0.mk (below_step (bl1_ HB GE237) hb)
       have n2_ := Aside0.mk (hbox)
       have n3_ := Aside0.mk ((by rw [hg]; exact (below_size (bl1_ HB GE237)) : w.heap.size ≤ gb241))
       have n4_ := Aside0.mk ((by rw [hg]; exact (below_size (bl1_ HB GE237)) : w.heap.size ≤ gb241))
       have n5_ := Aside0.mk ((by rw [hg]; exact Nat.ne_of_lt (blk_lt (g := gb237) (bk_ BK237)) : gb237 ≠ gb241))
       have n6_ := Aside0.mk ((by rw [hg]; exact Nat.ne_of_gt (blk_lt (g := gb237) (bk_ BK237)) : gb241 ≠ gb237))
       clear BK237
       clear HB
       have BK237 := n0_
       have HB := n1_
       have BK241 := n2_
       have GW241 := n3_
       have GE241 := n4_
       have NB237_241 := n5_
       have NB241_237 := n6_
       clear n0_ n1_ n2_ n3_ n4_ n5_ n6_
       clear hb hbox hg
       refine hK.out _ _ (((HB.out.cell (World.block_lt_of_cell? w _ hw238_0)).trans hw238_0)) (fun hHeld => ?_)
       clear hK K
       refine norm_ (a' := ?_) ?_ ?_
       rotate_left
       ·show Act.put _ (some 4) _ = _
        simp only [Act.put, List.setIfInBounds_toArray, List.set_cons_zero, List.set_cons_succ, i64_w, i32_w]
        rfl
       refine one_ (i := 6) (N := some 16) #[true, true, true, true, true, true, true, false, true, false] rfl rfl (one_of HT_.out (by kernel_rfl)) (by decide) (fun K hK => ?_)
       refine goes_ Try.func63 (by kernel_rfl) rfl #[.slice A13 (l0.drop 1).length (c0 - 1)] (by rfl) rfl rfl (by (try simp only [List.map_toArray, List.map_cons, List.map_nil]); first | done | (rw [show (l0.drop 1).length = (l0.length - 1) from List.length_drop] <;> rfl) | rfl | (simp only [List.length_drop, List.length_take]; rfl)) ?_
       with_reducible refine (basculeref01_Number.calls _ _ (l0.drop 1) t240 _ ?side1 ?side2 A7.out).mono ?_
       (case side1 => exact sc_ (Kd.C_below HR239.out HB.out))
       (case side2 => exact HC239.out)
       rintro e w' ⟨rfl, ⟨nd, rfl⟩⟩
       refine ⟨_, rfl, ?_⟩
       refine hK.out _ _ (((HB.out.cell (World.block_lt_of_cell? w _ hw238_0)).trans hw238_0)) (fun hHeld => ?_)
       clear hK K
       refine norm_ (a' := ?_) ?_ ?_
       rotate_left
       ·show Act.put _ (some 16) _ = _
        simp only [Act.put, List.setIfInBounds_toArray, List.set_cons_zero, List.set_cons_succ, i64_w, i32_w]
        rfl
       refine pure_ (i := 7) (N := some 17) (v := ?_) (a' := ?_) #[true, true, true, true, true, true, true, true, true, false] rfl rfl (any_of HT_.out (by kernel_rfl)) (fun _ _ _ h => h) (Or.inl ⟨by rfl, ?_⟩) ?_ ?_
       rotate_left
       ·intro w'
        go_simp
        with_reducible rfl
       rotate_left
       ·simp only [Act.put, List.setIfInBounds_toArray, List.set_cons_zero, List.set_cons_succ, i64_w, i32_w]
        rfl
       exact norm_ (by simp only [putAll, Act.put, List.setIfInBounds_toArray, List.set_cons_zero, List.set_cons_succ]) (hCont (gb241) _ ⟨hHeld, (bk_ BK237), (bk_ BK241), GW241.out, GE241.out, NB237_241.out, NB241_237.out, (bl2_ HB GE237 GE241)⟩)
     rintro gb241 w15 ⟨hS_, h0_, h1_, h2_, h3_, h4_, h5_, h6_⟩
     have n0_ : Aside0 (w15.heap[gb237]? = some (.cells #[.int .i64 0, .int .i64 0, .int .i64 0, .slice none 0 0, .int .i64 0, .int .i64 0, .int .i64 0] 24 (0, 0))) := ⟨h0_⟩
     have n1_ : Aside0 (w15.heap[gb241]? = some (.cells #[.int .i64 0, .int .i64 0, .int .i64 0, .slice none 0 0, .int .i64 0, .int .i64 0, .int .i64 0] 24 (0, 0))) := ⟨h1_⟩
     have n2_ : Aside0 (w.heap.size ≤ gb241) := ⟨h2_⟩
     have n3_ : Aside0 (w.heap.size ≤ gb241) := ⟨h3_⟩
     have n4_ : Aside0 (gb237 ≠ gb241) := ⟨h4_⟩
     have n5_ : Aside0 (gb241 ≠ gb237) := ⟨h5_⟩
     have n6_ : Aside0 (Below w.heap.size w w15) := ⟨h6_⟩
     clear BK237
     clear HB
     clear h0_ h1_ h2_ h3_ h4_ h5_ h6_
     have BK237 := n0_
     have BK241 := n1_
     have GW241 := n2_
     have GE241 := n3_
     have NB237_241 := n4_
     have NB241_237 := n5_
     have HB := n6_
     clear n0_ n1_ n2_ n3_ n4_ n5_ n6_
     have hHeld : w15.cell? ad238 = some (.int .u8 (rd l0 0)) := hS_
     refine norm_ (a' := ?_) ?_ ?_
     rotate_left
     ·simp only [putAll, Act.put, List.setIfInBounds_toArray, List.set_cons_zero, List.set_cons_succ]
      rfl
     refine one_ (i := 9) (N := none) #[true, true, true, true, true, true, true, true, true, true] rfl rfl (one_of HT_.out (by kernel_rfl)) (by decide) (fun K hK => ?_)
     have hs16 : w15.cell? ⟨gb241, 0, none⟩ = some (.int .i64 0) := (blk_cell BK241.out 0).trans rfl
     have hfs16 := blk_frozen BK241.out 0
     have hns16_0 := NB237_241.out
     have hms16_0 := NB241_237.out
     have hs17 : w15.cell? ⟨gb241, 1, none⟩ = some (.int .i64 0) := (blk_cell BK241.out 1).trans rfl
     have hfs17 := blk_frozen BK241.out 1
     have hns17_0 := NB237_241.out
     have hms17_0 := NB241_237.out
     have hs18 : w15.cell? ⟨gb241, 2, none⟩ = some (.int .i64 0) := (blk_cell BK241.out 2).trans rfl
     have hfs18 := blk_frozen BK241.out 2
     have hns18_0 := NB237_241.out
     have hms18_0 := NB241_237.out
     have hs19 : w15.cell? ⟨gb241, 3, none⟩ = some (.slice none 0 0) := (blk_cell BK241.out 3).trans rfl
     have hfs19 := blk_frozen BK241.out 3
     have hns19_0 := NB237_241.out
     have hms19_0 := NB241_237.out
     have hs20 : w15.cell? ⟨gb241, 4, none⟩ = some (.int .i64 0) := (blk_cell BK241.out 4).trans rfl
     have hfs20 := blk_frozen BK241.out 4
     have hns20_0 := NB237_241.out
     have hms20_0 := NB241_237.out
     have hs21 : w15.cell? ⟨gb241, 5, none⟩ = some (.int .i64 0) := (blk_cell BK241.out 5).trans rfl
     have hfs21 := blk_frozen BK241.out 5
     have hns21_0 := NB237_241.out
     have hms21_0 := NB241_237.out
     have hs22 : w15.cell? ⟨gb241, 6, none⟩ = some (.int .i64 0) := (blk_cell BK241.out 6).trans rfl
     have hfs22 := blk_frozen BK241.out 6
     have hns22_0 := NB237_241.out
     have hms22_0 := NB241_237.out
     refine skip_ (w1 := ?_) (by rfl) rfl ?_ ?_
     rotate_left
     ·go_simp
      rfl
     refine hK.out _ _ (((cell_far (p := ⟨gb241, _, none⟩) (by first | exact Nat.ne_of_lt (Nat.lt_of_lt_of_le (by have := World.block_lt_of_cell? _ _ hw238_0; first | rwa [add_block] at this | exact this) GW241.out) | (rw [add_block]; exact Nat.ne_of_lt (Nat.lt_of_lt_of_le (by have := World.block_lt_of_cell? _ _ hw238_0; first | rwa [add_block] at this | exact this) GW241.out)) | (show (Addr.add _ _).block ≠ _; rw [add_block]; exact Nat.ne_of_lt (Nat.lt_of_lt_of_le (by have := World.block_lt_of_cell? _ _ hw238_0; first | rwa [add_block] at this | exact this) GW241.out)) | (dsimp only; exact Nat.ne_of_lt (Nat.lt_of_lt_of_le (by have := World.block_lt_of_cell? _ _ hw238_0; first | rwa [add_block] at this | exact this) GW241.out))) _).trans (((cell_far (p := ⟨gb241, _, none⟩) (by first | exact Nat.ne_of_lt (Nat.lt_of_lt_of_le (by have := World.block_lt_of_cell? _ _ hw238_0; first | rwa [add_block] at this | exact this) GW241.out) | (rw [add_block]; exact Nat.ne_of_lt (Nat.lt_of_lt_of_le (by have := World.block_lt_of_cell? _ _ hw238_0; first | rwa [add_block] at this | exact this) GW241.out)) | (show (Addr.add _ _).block ≠ _; rw [add_block]; exact Nat.ne_of_lt (Nat.lt_of_lt_of_le (by have := World.block_lt_of_cell? _ _ hw238_0; first | rwa [add_block] at this | exact this) GW241.out)) | (dsimp only; exact Nat.ne_of_lt (Nat.lt_of_lt_of_le (by have := World.block_lt_of_cell? _ _ hw238_0; first | rwa [add_block] at this | exact this) GW241.out))) _).trans (((cell_far (p := ⟨gb241, _, none⟩) (by first | exact Nat.ne_of_lt (Nat.lt_of_lt_of_le (by have := World.block_lt_of_cell? _ _ hw238_0; first | rwa [add_block] at this | exact this) GW241.out) | (rw [add_block]; exact Nat.ne_of_lt (Nat.lt_of_lt_of_le (by have := World.block_lt_of_cell? _ _ hw238_0; first | rwa [add_block] at this | exact this) GW241.out)) | (show (Addr.add _ _).block ≠ _; rw [add_block]; exact Nat.ne_of_lt (Nat.lt_of_lt_of_le (by have := World.block_lt_of_cell? _ _ hw238_0; first | rwa [add_block] at this | exact this) GW241.out)) | (dsimp only; exact Nat.ne_of_lt (Nat.lt_of_lt_of_le (by have := World.block_lt_of_cell? _ _ hw238_0; first | rwa [add_block] at this | exact this) GW241.out))) _).trans (((cell_far (p := ⟨gb241, _, none⟩) (by first | exact Nat.ne_of_lt (Nat.lt_of_lt_of_le (by have := World.block_lt_of_cell? _ _ hw238_0; first | rwa [add_block] at this | exact this) GW241.out) | (rw [add_block]; exact Nat.ne_of_lt (Nat.lt_of_lt_of_le (by have := World.block_lt_of_cell? _ _ hw238_0; first | rwa [add_block] at this | exact this) GW241.out)) | (show (Addr.add _ _).block ≠ _; rw [add_block]; exact Nat.ne_of_lt (Nat.lt_of_lt_of_le (by have := World.block_lt_of_cell? _ _ hw238_0; first | rwa [add_block] at this | exact this) GW241.out)) | (dsimp only; exact Nat.ne_of_lt (Nat.lt_of_lt_of_le (by have := World.block_lt_of_cell? _ _ hw238_0; first | rwa [add_block] at this | exact this) GW241.out))) _).trans (((cell_far (p := ⟨gb241, _, none⟩) (by first | exact Nat.ne_of_lt (Nat.lt_of_lt_of_le (by have := World.block_lt_of_cell? _ _ hw238_0; first | rwa [add_block] at this | exact this) GW241.out) | (rw [add_block]; exact Nat.ne_of_lt (Nat.lt_of_lt_of_le (by have := World.block_lt_of_cell? _ _ hw238_0; first | rwa [add_block] at this | exact this) GW241.out)) | (show (Addr.add _ _).block ≠ _; rw [add_block]; exact Nat.ne_of_lt (Nat.lt_of_lt_of_le (by have := World.block_lt_of_cell? _ _ hw238_0; first | rwa [add_block] at this | exact this) GW241.out)) | (dsimp only; exact Nat.ne_of_lt (Nat.lt_of_lt_of_le (by have := World.block_lt_of_cell? _ _ hw238_0; first | rwa [add_block] at this | exact this) GW241.out))) _).trans (((cell_far (p := ⟨gb241, _, none⟩) (by first | exact Nat.ne_of_lt (Nat.lt_of_lt_of_le (by have := World.block_lt_of_cell? _ _ hw238_0; first | rwa [add_block] at this | exact this) GW241.out) | (rw [add_block]; exact Nat.ne_of_lt (Nat.lt_of_lt_of_le (by have := World.block_lt_of_cell? _ _ hw238_0; first | rwa [add_block] at this | exact this) GW241.out)) | (show (Addr.add _ _).block ≠ _; rw [add_block]; exact Nat.ne_of_lt (Nat.lt_of_lt_of_le (by have := World.block_lt_of_cell? _ _ hw238_0; first | rwa [add_block] at this | exact this) GW241.out)) | (dsimp only; exact Nat.ne_of_lt (Nat.lt_of_lt_of_le (by have := World.block_lt_of_cell? _ _ hw238_0; first | rwa [add_block] at this | exact this) GW241.out))) _).trans (((cell_far (p := ⟨gb241, _, none⟩) (by first | exact Nat.ne_of_lt (Nat.lt_of_lt_of_le (by have := World.block_lt_of_cell? _ _ hw238_0; first | rwa [add_block] at this | exact this) GW241.out) | (rw [add_block]; exact Nat.ne_of_lt (Nat.lt_of_lt_of_le (by have := World.block_lt_of_cell? _ _ hw238_0; first | rwa [add_block] at this | exact this) GW241.out)) | (show (Addr.add _ _).block ≠ _; rw [add_block]; exact Nat.ne_of_lt (Nat.lt_of_lt_of_le (by have := World.block_lt_of_cell? _ _ hw238_0; first | rwa [add_block] at this | exact this) GW241.out)) | (dsimp only; exact Nat.ne_of_lt (Nat.lt_of_lt_of_le (by have := World.block_lt_of_cell? _ _ hw238_0; first | rwa [add_block] at this | exact this) GW241.out))) _).trans (hHeld))))))))))))))) (fun hHeld => ?_)
     clear hK K
     refine done_ (done_of HT_.out (by kernel_rfl)) ?_
     obtain ⟨i023, hi023, _, hsz23, _⟩ := info_parts info5
     obtain ⟨A23, hcut23, hA23, hC23⟩ := print_drop_of (P := Try.prog) (Value.int .u8) 0 58 5 .i64 Try.underlying58 hi023 hsz23 (some ad238) c0 l0 3 (by omega) (of_decide_eq_true (by first | (with_reducible assumption) | assumption)) HC0.out
     have HR242 := Aside0.mk (Kd.C_of_reads (h1 := fun _ => rfl) (hA23 _ (Kd.reads_of_C HR0.out)))
     have HC242 := Aside0.mk hC23
     clear hA23 hC23 hi023 hsz23
     go_upto_block 0 with (first | ((with_reducible refine gate_callee (f := 63) rfl ?_); refine goesL_ (some 20) rfl rfl Try.func63 (by kernel_rfl) rfl #[.slice A23 (l0.drop 3).length (c0 - 3)] rfl (by (try simp only [List.map_toArray, List.map_cons, List.map_nil]); first | done | (rw [show (l0.drop 3).length = (l0.length - 3) from List.length_drop] <;> rfl) | rfl | (simp only [List.length_drop, List.length_take]; rfl)) ?_; (with_reducible refine (basculeref01_Number.calls _ _ (l0.drop 3) t243 _ ?side1 ?side2 A9.out).mono ?_); (case side1 => exact Kd.C_below HR242.out (bl2_ HB GE237 GE241)); (case side2 => exact HC242.out); rintro e w' ⟨rfl, ⟨nd, rfl⟩⟩; refine ⟨_, rfl, ?_⟩; have hnb24 := NB241_237.out; have hnc24 := NB237_241.out; refine cz7_ BK241.out ?_; intro hcz25_0 hcz25_1 hcz25_2 hcz25_3 hcz25_4 hcz25_5 hcz25_6 hfz25_0 hfz25_1 hfz25_2 hfz25_3 hfz25_4 hfz25_5 hfz25_6))
     (try simp only [Act.put, List.setIfInBounds_toArray, List.set_cons_zero, List.set_cons_succ])
     go_cut [] (fun wc => ∃ (kq : Nat) (x238000_9 : Int) (x238001_9 : Int) (x238002_9 : Int) (x238004_9 : Int) (x238005_9 : Int) (x238006_9 : Int) (x242002_9 : Int) (x242003_9 : List Int) (x242004_9 : Int) (x242005_9 : Int) (x242006_9 : Int) (u242003 : Value), Aside0 (basculeref03_Parse.j1 kq l0 (wrap64 (rd l0 0)) t240 x242002_9 x242003_9 x242004_9 x242005_9 x242006_9 = some (r1, r2, r3, r4, r5, r6, r7, r8)) ∧ Aside0 (kq ≤ k) ∧ Aside0 (Kd.R (Kd.int .i64) 3 wc w.heap.size (fun _ => True) u242003 x242003_9) ∧ Aside0 (wc.heap[gb237]? = some (.cells #[.int .i64 x238000_9, .int .i64 x238001_9, .int .i64 x238002_9, (.slice none 0 0), .int .i64 x238004_9, .int .i64 x238005_9, .int .i64 x238006_9] 24 (0, 0))) ∧ Aside0 (wc.heap[gb241]? = some (.cells #[.int .i64 (wrap64 (rd l0 0)), .int .i64 t240, .int .i64 x242002_9, u242003, .int .i64 x242004_9, .int .i64 x242005_9, .int .i64 x242006_9] 24 (0, 0))) ∧ Aside0 (Below w.heap.size w wc))
     case first =>
      have H := HC10.out
      clear HC10
      have HC26 := Aside0.mk H
      clear H
      go_upto_if 23 with (fail)
      go_cut [23] (fun v23 wc => ∃ (kq : Nat) (x23_25 : Bool), v23 = .bool x23_25 ∧ Aside0 (basculeref03_Parse.j0 kq l0 t243 (wrap64 (rd l0 0)) x23_25 (wrap64 (rd l0 0)) t240 0 0 0 0 = some (r1, r2, r3, r4, r5, r6, r7, r8)) ∧ Aside0 (kq ≤ k) ∧ Aside0 (wc.heap[gb237]? = some (.cells #[.int .i64 0, .int .i64 0, .int .i64 0, (.slice none 0 0), .int .i64 0, .int .i64 0, .int .i64 0] 24 (0, 0))) ∧ Aside0 (wc.heap[gb241]? = some (.cells #[.int .i64 (wrap64 (rd l0 0)), .int .i64 t240, .int .i64 0, (.slice none 0 0), .int .i64 0, .int .i64 0, .int .i64 0] 24 (0, 0))) ∧ Aside0 (Below w.heap.size w wc))
      case first =>
       have H := HC26.out
       clear HC26
       by_cases c27 : (wrap64 (rd l0 0)) = 1
       ·rw [if_pos c27] at H
        have c27b0 : ((wrap64 (rd l0 0)) == 1) = true := beq_iff_eq.mpr c27
        have c27b1 : ((wrap64 (rd l0 0)) != 1) = false := bne_eq_false_iff_eq.mpr c27
        clear c27
        (first | rw [c27b0] | (simp only [i64_w, i32_w]; rw [c27b0]) | skip)
        have H' := Aside0.mk H
        clear H
        go_wp2
        go_meet
        case rel => exact ⟨_, (((wrap64 (rd l0 0)) == 1)), (by first | rfl | (simp; done) | (simp [*]; done)), H', ⟨by first | omega | exact Nat.le_refl _⟩, ⟨by (with_reducible repeat (first | refine blk_drewN ?_ _ | refine blk_drew ?_ | refine blk_alloc ?_ _)); refine blk_far ?_ NB237_241.out _; (with_reducible repeat (first | refine blk_drewN ?_ _ | refine blk_drew ?_ | refine blk_alloc ?_ _)); refine blk_far ?_ NB237_241.out _; (with_reducible repeat (first | refine blk_drewN ?_ _ | refine blk_drew ?_ | refine blk_alloc ?_ _)); refine blk_far ?_ NB237_241.out _; (with_reducible repeat (first | refine blk_drewN ?_ _ | refine blk_drew ?_ | refine blk_alloc ?_ _)); refine blk_far ?_ NB237_241.out _; (with_reducible repeat (first | refine blk_drewN ?_ _ | refine blk_drew ?_ | refine blk_alloc ?_ _)); refine blk_far ?_ NB237_241.out _; (with_reducible repeat (first | refine blk_drewN ?_ _ | refine blk_drew ?_ | refine blk_alloc ?_ _)); refine blk_far ?_ NB237_241.out _; (with_reducible repeat (first | refine blk_drewN ?_ _ | refine blk_drew ?_ | refine blk_alloc ?_ _)); refine blk_far ?_ NB237_241.out _; (with_reducible repeat (first | refine blk_drewN ?_ _ | refine blk_drew ?_ | refine blk_alloc ?_ _)); exact BK237.out⟩, ⟨by (with_reducible repeat (first | refine blk_drewN ?_ _ | refine blk_drew ?_ | refine blk_alloc ?_ _)); refine blk_put (cs := #[.int .i64 (wrap64 (rd l0 0)), .int .i64 t240, .int .i64 0, .slice none 0 0, .int .i64 0, .int .i64 0, .int .i64 0]) ?_ 6 _ rfl; (with_reducible repeat (first | refine blk_drewN ?_ _ | refine blk_drew ?_ | refine blk_alloc ?_ _)); refine blk_put (cs := #[.int .i64 (wrap64 (rd l0 0)), .int .i64 t240, .int .i64 0, .slice none 0 0, .int .i64 0, .int .i64 0, .int .i64 0]) ?_ 5 _ rfl; (with_reducible repeat (first | refine blk_drewN ?_ _ | refine blk_drew ?_ | refine blk_alloc ?_ _)); refine blk_put (cs := #[.int .i64 (wrap64 (rd l0 0)), .int .i64 t240, .int .i64 0, .slice none 0 0, .int .i64 0, .int .i64 0, .int .i64 0]) ?_ 4 _ rfl; (with_reducible repeat (first | refine blk_drewN ?_ _ | refine blk_drew ?_ | refine blk_alloc ?_ _)); refine blk_put (cs := #[.int .i64 (wrap64 (rd l0 0)), .int .i64 t240, .int .i64 0, .slice none 0 0, .int .i64 0, .int .i64 0, .int .i64 0]) ?_ 3 _ rfl; (with_reducible repeat (first | refine blk_drewN ?_ _ | refine blk_drew ?_ | refine blk_alloc ?_ _)); refine blk_put (cs := #[.int .i64 (wrap64 (rd l0 0)), .int .i64 t240, .int .i64 0, .slice none 0 0, .int .i64 0, .int .i64 0, .int .i64 0]) ?_ 2 _ rfl; (with_reducible repeat (first | refine blk_drewN ?_ _ | refine blk_drew ?_ | refine blk_alloc ?_ _)); refine blk_put (cs := #[.int .i64 (wrap64 (rd l0 0)), .int .i64 0, .int .i64 0, .slice none 0 0, .int .i64 0, .int .i64 0, .int .i64 0]) ?_ 1 _ rfl; (with_reducible repeat (first | refine blk_drewN ?_ _ | refine blk_drew ?_ | refine blk_alloc ?_ _)); refine blk_put (cs := #[.int .i64 0, .int .i64 0, .int .i64 0, .slice none 0 0, .int .i64 0, .int .i64 0, .int .i64 0]) ?_ 0 _ rfl; (with_reducible repeat (first | refine blk_drewN ?_ _ | refine blk_drew ?_ | refine blk_alloc ?_ _)); exact BK241.out⟩, ⟨bl2_ HB GE237 GE241⟩⟩
       ·rw [if_neg c27] at H
        have c27b0 : ((wrap64 (rd l0 0)) == 1) = false := beq_eq_false_iff_ne.mpr c27
        have c27b1 : ((wrap64 (rd l0 0)) != 1) = true := bne_iff_ne.mpr c27
        (first | rw [c27b0] | (simp only [i64_w, i32_w]; rw [c27b0]) | skip)
        by_cases c28 : (wrap64 (rd l0 0)) = 2
        ·rw [if_pos c28] at H
         have c28b0 : ((wrap64 (rd l0 0)) == 2) = true := beq_iff_eq.mpr c28
         have c28b1 : ((wrap64 (rd l0 0)) != 2) = false := bne_eq_false_iff_eq.mpr c28
         clear c28
         have H' := Aside0.mk H
         clear H
         go_wp2
         go_meet
         case rel => exact ⟨_, (((wrap64 (rd l0 0)) == 2)), (by first | rfl | (simp; done) | (simp [*]; done)), H', ⟨by first | omega | exact Nat.le_refl _⟩, ⟨by (with_reducible repeat (first | refine blk_drewN ?_ _ | refine blk_drew ?_ | refine blk_alloc ?_ _)); refine blk_far ?_ NB237_241.out _; (with_reducible repeat (first | refine blk_drewN ?_ _ | refine blk_drew ?_ | refine blk_alloc ?_ _)); refine blk_far ?_ NB237_241.out _; (with_reducible repeat (first | refine blk_drewN ?_ _ | refine blk_drew ?_ | refine blk_alloc ?_ _)); refine blk_far ?_ NB237_241.out _; (with_reducible repeat (first | refine blk_drewN ?_ _ | refine blk_drew ?_ | refine blk_alloc ?_ _)); refine blk_far ?_ NB237_241.out _; (with_reducible repeat (first | refine blk_drewN ?_ _ | refine blk_drew ?_ | refine blk_alloc ?_ _)); refine blk_far ?_ NB237_241.out _; (with_reducible repeat (first | refine blk_drewN ?_ _ | refine blk_drew ?_ | refine blk_alloc ?_ _)); refine blk_far ?_ NB237_241.out _; (with_reducible repeat (first | refine blk_drewN ?_ _ | refine blk_drew ?_ | refine blk_alloc ?_ _)); refine blk_far ?_ NB237_241.out _; (with_reducible repeat (first | refine blk_drewN ?_ _ | refine blk_drew ?_ | refine blk_alloc ?_ _)); exact BK237.out⟩, ⟨by (with_reducible repeat (first | refine blk_drewN ?_ _ | refine blk_drew ?_ | refine blk_alloc ?_ _)); refine blk_put (cs := #[.int .i64 (wrap64 (rd l0 0)), .int .i64 t240, .int .i64 0, .slice none 0 0, .int .i64 0, .int .i64 0, .int .i64 0]) ?_ 6 _ rfl; (with_reducible repeat (first | refine blk_drewN ?_ _ | refine blk_drew ?_ | refine blk_alloc ?_ _)); refine blk_put (cs := #[.int .i64 (wrap64 (rd l0 0)), .int .i64 t240, .int .i64 0, .slice none 0 0, .int .i64 0, .int .i64 0, .int .i64 0]) ?_ 5 _ rfl; (with_reducible repeat (first | refine blk_drewN ?_ _ | refine blk_drew ?_ | refine blk_alloc ?_ _)); refine blk_put (cs := #[.int .i64 (wrap64 (rd l0 0)), .int .i64 t240, .int .i64 0, .slice none 0 0, .int .i64 0, .int .i64 0, .int .i64 0]) ?_ 4 _ rfl; (with_reducible repeat (first | refine blk_drewN ?_ _ | refine blk_drew ?_ | refine blk_alloc ?_ _)); refine blk_put (cs := #[.int .i64 (wrap64 (rd l0 0)), .int .i64 t240, .int .i64 0, .slice none 0 0, .int .i64 0, .int .i64 0, .int .i64 0]) ?_ 3 _ rfl; (with_reducible repeat (first | refine blk_drewN ?_ _ | refine blk_drew ?_ | refine blk_alloc ?_ _)); refine blk_put (cs := #[.int .i64 (wrap64 (rd l0 0)), .int .i64 t240, .int .i64 0, .slice none 0 0, .int .i64 0, .int .i64 0, .int .i64 0]) ?_ 2 _ rfl; (with_reducible repeat (first | refine blk_drewN ?_ _ | refine blk_drew ?_ | refine blk_alloc ?_ _)); refine blk_put (cs := #[.int .i64 (wrap64 (rd l0 0)), .int .i64 0, .int .i64 0, .slice none 0 0, .int .i64 0, .int .i64 0, .int .i64 0]) ?_ 1 _ rfl; (with_reducible repeat (first | refine blk_drewN ?_ _ | refine blk_drew ?_ | refine blk_alloc ?_ _)); refine blk_put (cs := #[.int .i64 0, .int .i64 0, .int .i64 0, .slice none 0 0, .int .i64 0, .int .i64 0, .int .i64 0]) ?_ 0 _ rfl; (with_reducible repeat (first | refine blk_drewN ?_ _ | refine blk_drew ?_ | refine blk_alloc ?_ _)); exact BK241.out⟩, ⟨bl2_ HB GE237 GE241⟩⟩
        ·rw [if_neg c28] at H
         have c28b0 : ((wrap64 (rd l0 0)) == 2) = false := beq_eq_false_iff_ne.mpr c28
         have c28b1 : ((wrap64 (rd l0 0)) != 2) = true := bne_iff_ne.mpr c28
         by_cases c29 : (wrap64 (rd l0 0)) = 3
         ·rw [if_pos c29] at H
          have c29b0 : ((wrap64 (rd l0 0)) == 3) = true := beq_iff_eq.mpr c29
          have c29b1 : ((wrap64 (rd l0 0)) != 3) = false := bne_eq_false_iff_eq.mpr c29
          clear c29
          have H' := Aside0.mk H
          clear H
          go_wp2
          go_meet
          case rel => exact ⟨_, (((wrap64 (rd l0 0)) == 3)), (by first | rfl | (simp; done) | (simp [*]; done)), H', ⟨by first | omega | exact Nat.le_refl _⟩, ⟨by (with_reducible repeat (first | refine blk_drewN ?_ _ | refine blk_drew ?_ | refine blk_alloc ?_ _)); refine blk_far ?_ NB237_241.out _; (with_reducible repeat (first | refine blk_drewN ?_ _ | refine blk_drew ?_ | refine blk_alloc ?_ _)); refine blk_far ?_ NB237_241.out _; (with_reducible repeat (first | refine blk_drewN ?_ _ | refine blk_drew ?_ | refine blk_alloc ?_ _)); refine blk_far ?_ NB237_241.out _; (with_reducible repeat (first | refine blk_drewN ?_ _ | refine blk_drew ?_ | refine blk_alloc ?_ _)); refine blk_far ?_ NB237_241.out _; (with_reducible repeat (first | refine blk_drewN ?_ _ | refine blk_drew ?_ | refine blk_alloc ?_ _)); refine blk_far ?_ NB237_241.out _; (with_reducible repeat (first | refine blk_drewN ?_ _ | refine blk_drew ?_ | refine blk_alloc ?_ _)); refine blk_far ?_ NB237_241.out _; (with_reducible repeat (first | refine blk_drewN ?_ _ | refine blk_drew ?_ | refine blk_alloc ?_ _)); refine blk_far ?_ NB237_241.out _; (with_reducible repeat (first | refine blk_drewN ?_ _ | refine blk_drew ?_ | refine blk_alloc ?_ _)); exact BK237.out⟩, ⟨by (with_reducible repeat (first | refine blk_drewN ?_ _ | refine blk_drew ?_ | refine blk_alloc ?_ _)); refine blk_put (cs := #[.int .i64 (wrap64 (rd l0 0)), .int .i64 t240, .int .i64 0, .slice none 0 0, .int .i64 0, .int .i64 0, .int .i64 0]) ?_ 6 _ rfl; (with_reducible repeat (first | refine blk_drewN ?_ _ | refine blk_drew ?_ | refine blk_alloc ?_ _)); refine blk_put (cs := #[.int .i64 (wrap64 (rd l0 0)), .int .i64 t240, .int .i64 0, .slice none 0 0, .int .i64 0, .int .i64 0, .int .i64 0]) ?_ 5 _ rfl; (with_reducible repeat (first | refine blk_drewN ?_ _ | refine blk_drew ?_ | refine blk_alloc ?_ _)); refine blk_put (cs := #[.int .i64 (wrap64 (rd l0 0)), .int .i64 t240, .int .i64 0, .slice none 0 0, .int .i64 0, .int .i64 0, .int .i64 0]) ?_ 4 _ rfl; (with_reducible repeat (first | refine blk_drewN ?_ _ | refine blk_drew ?_ | refine blk_alloc ?_ _)); refine blk_put (cs := #[.int .i64 (wrap64 (rd l0 0)), .int .i64 t240, .int .i64 0, .slice none 0 0, .int .i64 0, .int .i64 0, .int .i64 0]) ?_ 3 _ rfl; (with_reducible repeat (first | refine blk_drewN ?_ _ | refine blk_drew ?_ | refine blk_alloc ?_ _)); refine blk_put (cs := #[.int .i64 (wrap64 (rd l0 0)), .int .i64 t240, .int .i64 0, .slice none 0 0, .int .i64 0, .int .i64 0, .int .i64 0]) ?_ 2 _ rfl; (with_reducible repeat (first | refine blk_drewN ?_ _ | refine blk_drew ?_ | refine blk_alloc ?_ _)); refine blk_put (cs := #[.int .i64 (wrap64 (rd l0 0)), .int .i64 0, .int .i64 0, .slice none 0 0, .int .i64 0, .int .i64 0, .int .i64 0]) ?_ 1 _ rfl; (with_reducible repeat (first | refine blk_drewN ?_ _ | refine blk_drew ?_ | refine blk_alloc ?_ _)); refine blk_put (cs := #[.int .i64 0, .int .i64 0, .int .i64 0, .slice none 0 0, .int .i64 0, .int .i64 0, .int .i64 0]) ?_ 0 _ rfl; (with_reducible repeat (first | refine blk_drewN ?_ _ | refine blk_drew ?_ | refine blk_alloc ?_ _)); exact BK241.out⟩, ⟨bl2_ HB GE237 GE241⟩⟩
         ·rw [if_neg c29] at H
          have c29b0 : ((wrap64 (rd l0 0)) == 3) = false := beq_eq_false_iff_ne.mpr c29
          have c29b1 : ((wrap64 (rd l0 0)) != 3) = true := bne_iff_ne.mpr c29
          have H' := Aside0.mk H
          clear H
          go_wp2
          go_meet
          case rel => exact ⟨_, (((wrap64 (rd l0 0)) == 4)), (by first | rfl | (simp; done) | (simp [*]; done)), H', ⟨by first | omega | exact Nat.le_refl _⟩, ⟨by (with_reducible repeat (first | refine blk_drewN ?_ _ | refine blk_drew ?_ | refine blk_alloc ?_ _)); refine blk_far ?_ NB237_241.out _; (with_reducible repeat (first | refine blk_drewN ?_ _ | refine blk_drew ?_ | refine blk_alloc ?_ _)); refine blk_far ?_ NB237_241.out _; (with_reducible repeat (first | refine blk_drewN ?_ _ | refine blk_drew ?_ | refine blk_alloc ?_ _)); refine blk_far ?_ NB237_241.out _; (with_reducible repeat (first | refine blk_drewN ?_ _ | refine blk_drew ?_ | refine blk_alloc ?_ _)); refine blk_far ?_ NB237_241.out _; (with_reducible repeat (first | refine blk_drewN ?_ _ | refine blk_drew ?_ | refine blk_alloc ?_ _)); refine blk_far ?_ NB237_241.out _; (with_reducible repeat (first | refine blk_drewN ?_ _ | refine blk_drew ?_ | refine blk_alloc ?_ _)); refine blk_far ?_ NB237_241.out _; (with_reducible repeat (first | refine blk_drewN ?_ _ | refine blk_drew ?_ | refine blk_alloc ?_ _)); refine blk_far ?_ NB237_241.out _; (with_reducible repeat (first | refine blk_drewN ?_ _ | refine blk_drew ?_ | refine blk_alloc ?_ _)); exact BK237.out⟩, ⟨by (with_reducible repeat (first | refine blk_drewN ?_ _ | refine blk_drew ?_ | refine blk_alloc ?_ _)); refine blk_put (cs := #[.int .i64 (wrap64 (rd l0 0)), .int .i64 t240, .int .i64 0, .slice none 0 0, .int .i64 0, .int .i64 0, .int .i64 0]) ?_ 6 _ rfl; (with_reducible repeat (first | refine blk_drewN ?_ _ | refine blk_drew ?_ | refine blk_alloc ?_ _)); refine blk_put (cs := #[.int .i64 (wrap64 (rd l0 0)), .int .i64 t240, .int .i64 0, .slice none 0 0, .int .i64 0, .int .i64 0, .int .i64 0]) ?_ 5 _ rfl; (with_reducible repeat (first | refine blk_drewN ?_ _ | refine blk_drew ?_ | refine blk_alloc ?_ _)); refine blk_put (cs := #[.int .i64 (wrap64 (rd l0 0)), .int .i64 t240, .int .i64 0, .slice none 0 0, .int .i64 0, .int .i64 0, .int .i64 0]) ?_ 4 _ rfl; (with_reducible repeat (first | refine blk_drewN ?_ _ | refine blk_drew ?_ | refine blk_alloc ?_ _)); refine blk_put (cs := #[.int .i64 (wrap64 (rd l0 0)), .int .i64 t240, .int .i64 0, .slice none 0 0, .int .i64 0, .int .i64 0, .int .i64 0]) ?_ 3 _ rfl; (with_reducible repeat (first | refine blk_drewN ?_ _ | refine blk_drew ?_ | refine blk_alloc ?_ _)); refine blk_put (cs := #[.int .i64 (wrap64 (rd l0 0)), .int .i64 t240, .int .i64 0, .slice none 0 0, .int .i64 0, .int .i64 0, .int .i64 0]) ?_ 2 _ rfl; (with_reducible repeat (first | refine blk_drewN ?_ _ | refine blk_drew ?_ | refine blk_alloc ?_ _)); refine blk_put (cs := #[.int .i64 (wrap64 (rd l0 0)), .int .i64 0, .int .i64 0, .slice none 0 0, .int .i64 0, .int .i64 0, .int .i64 0]) ?_ 1 _ rfl; (with_reducible repeat (first | refine blk_drewN ?_ _ | refine blk_drew ?_ | refine blk_alloc ?_ _)); refine blk_put (cs := #[.int .i64 0, .int .i64 0, .int .i64 0, .slice none 0 0, .int .i64 0, .int .i64 0, .int .i64 0]) ?_ 0 _ rfl; (with_reducible repeat (first | refine blk_drewN ?_ _ | refine blk_drew ?_ | refine blk_alloc ?_ _)); exact BK241.out⟩, ⟨bl2_ HB GE237 GE241⟩⟩
      case rest =>
       clear HC26
       try clear c2
       try clear c2b0
       try clear c2b1
       try clear p2
       try clear q2
       try clear hx2
       try clear qi2
       try clear c3
       try clear c5
       try clear c5b0
       try clear c5b1
       try clear c6
       try clear c6b0
       try clear c6b1
       try clear p6
       try clear c8
       try clear c8b0
       try clear c8b1
       try clear p23
       try clear q23
       try clear hx23
       try clear qi23
       try clear c24
       try clear c27
       try clear c27b0
       try clear c27b1
       try clear c28
       try clear c28b0
       try clear c28b1
       try clear c29
       try clear c29b0
       try clear c29b1
       try clear hcz25_0 hcz25_1 hcz25_2 hcz25_3 hcz25_4 hcz25_5 hcz25_6
       try clear hcz4_0 hcz4_1 hcz4_2 hcz4_3 hcz4_4 hcz4_5 hcz4_6
       try clear hfz25_0 hfz25_1 hfz25_2 hfz25_3 hfz25_4 hfz25_5 hfz25_6
       try clear hfz4_0 hfz4_1 hfz4_2 hfz4_3 hfz4_4 hfz4_5 hfz4_6
       try clear hx238_0
       try clear p238
       try clear q238
       obtain ⟨kq, x23_25, rfl, HA, HJ25, BK237, BK241, HB⟩ := hcut
       cases kq with
       | zero => exact absurd HA.out (by simp [basculeref03_Parse.j0])
       | succ kj25 =>
        have H := HA.out
        clear HA
        simp only [basculeref03_Parse.j0] at H
        by_cases c30 : x23_25 = true
        ·subst c30
         have H1 : (basculeref03_Parse.j1 kj25 l0 (wrap64 (rd l0 0)) t240 t243 ([] : List Int) 0 0 0) = some (r1, r2, r3, r4, r5, r6, r7, r8) := by rw [if_pos rfl] at H; exact H
         clear H
         have H := H1
         clear H1
         have H' := Aside0.mk H
         clear H
         have hnb31 := NB241_237.out
         have hnc31 := NB237_241.out
         refine cz7_ BK241.out ?_; intro hcz32_0 hcz32_1 hcz32_2 hcz32_3 hcz32_4 hcz32_5 hcz32_6 hfz32_0 hfz32_1 hfz32_2 hfz32_3 hfz32_4 hfz32_5 hfz32_6
         go_wp2
         go_meet
         case rel => exact ⟨_, (0), (0), (0), (0), (0), (0), (t243), (([] : List Int)), (0), (0), (0), (.slice none 0 0), H', ⟨by have := HJ25.out; first | omega | exact Nat.le_refl _⟩, ⟨by first | exact Kd.R_nil _ _ _ _ _ | exact Kd.N_nil _ _ _ _ _ | exact Kd.V_nil _ _ _ _ _ | exact Kd.Q_nil _ _ _ _ _ | exact Kd.S_nil _ _ _ _ _⟩, ⟨by (with_reducible repeat (first | refine blk_drewN ?_ _ | refine blk_drew ?_ | refine blk_alloc ?_ _)); refine blk_far ?_ NB237_241.out _; (with_reducible repeat (first | refine blk_drewN ?_ _ | refine blk_drew ?_ | refine blk_alloc ?_ _)); exact BK237.out⟩, ⟨by (with_reducible repeat (first | refine blk_drewN ?_ _ | refine blk_drew ?_ | refine blk_alloc ?_ _)); refine blk_put (cs := #[.int .i64 (wrap64 (rd l0 0)), .int .i64 t240, .int .i64 0, .slice none 0 0, .int .i64 0, .int .i64 0, .int .i64 0]) ?_ 2 _ rfl; (with_reducible repeat (first | refine blk_drewN ?_ _ | refine blk_drew ?_ | refine blk_alloc ?_ _)); exact BK241.out⟩, ⟨bl2_ HB GE237 GE241⟩⟩
        ·replace c30 := Bool.eq_false_iff.mpr c30
         subst c30
         have H1 : (if (wrap64 (rd l0 0)) = 5 then (basculeref03_Parse.j1 kj25 l0 (wrap64 (rd l0 0)) t240 0 (([wrap64 (Int.tdiv t243 65280)] : List Int)) 0 0 0) else (if (wrap64 (rd l0 0)) = 6 then (basculeref03_Parse.j1 kj25 l0 (wrap64 (rd l0 0)) t240 0 (([t243] : List Int)) 0 0 0) else (if (wrap64 (rd l0 0)) = 15 then (if (l0.length : Int) < 6 then (some (0, 0, 0, ([] : List Int), 0, 0, 0, false)) else (if t243 > (wrap64 (8 * (wrap64 ((l0.length : Int) - 6)))) then (some (0, 0, 0, ([] : List Int), 0, 0, 0, false)) else (if 6 ≤ (l0.length : Int) then ((basculeref01_Unpack.f kj25 (l0.drop 6) t243).bind fun t251 => (basculeref03_Parse.j1 kj25 l0 (wrap64 (rd l0 0)) t240 t243 t251 0 0 0)) else (none)))) else (if (wrap64 (rd l0 0)) = 16 then (if (l0.length : Int) < 6 then (some (0, 0, 0, ([] : List Int), 0, 0, 0, false)) else (if 6 ≤ (l0.length : Int) then ((basculeref03_read.f kj25 (l0.drop 6)).bind fun t255 => (basculeref03_Parse.j1 kj25 l0 (wrap64 (rd l0 0)) t240 t243 t255 0 0 0)) else (none))) else (if (wrap64 (rd l0 0)) = 22 then (if (l0.length : Int) < 7 then (some (0, 0, 0, ([] : List Int), 0, 0, 0, false)) else (if 5 ≤ (l0.length : Int) then ((basculeref01_Number.f (l0.drop 5)).bind fun t259 => (basculeref03_Parse.j1 kj25 l0 (wrap64 (rd l0 0)) t240 0 ([] : List Int) 0 t243 t259)) else (none))) else (if (wrap64 (rd l0 0)) = 23 then (if (l0.length : Int) < 10 then (some (0, 0, 0, ([] : List Int), 0, 0, 0, false)) else (if 5 ≤ (l0.length : Int) then ((basculeref01_Number.f (l0.drop 5)).bind fun t261 => (if 10 ≤ (l0.length : Int) then ((basculeref03_read.f kj25 (l0.drop 10)).bind fun t263 => (basculeref03_Parse.j1 kj25 l0 (wrap64 (rd l0 0)) t240 t243 t263 t261 0 0)) else (none))) else (none))) else (basculeref03_Parse.j1 kj25 l0 (wrap64 (rd l0 0)) t240 0 ([] : List Int) 0 0 0))))))) = some (r1, r2, r3, r4, r5, r6, r7, r8) := by rw [if_neg (show ¬ (false = true) by decide)] at H; exact H
         clear H
         have H := H1
         clear H1
         by_cases c33 : (wrap64 (rd l0 0)) = 5
         ·rw [if_pos c33] at H
          have c33b0 : ((wrap64 (rd l0 0)) == 5) = true := beq_iff_eq.mpr c33
          have c33b1 : ((wrap64 (rd l0 0)) != 5) = false := bne_eq_false_iff_eq.mpr c33
          clear c33
          obtain ⟨y244, hy244⟩ : ∃ y_ : List Int, y_ = (([wrap64 (Int.tdiv t243 65280)] : List Int)) := ⟨_, rfl⟩
          replace H : (basculeref03_Parse.j1 kj25 l0 (wrap64 (rd l0 0)) t240 0 y244 0 0 0) = some (r1, r2, r3, r4, r5, r6, r7, r8) := by first | (rw [hy244]; with_reducible exact H) | (have H2_ := (Option.bind_some _ _).symm.trans H; rw [hy244]; with_reducible exact H2_) | (have H2_ := (Option.bind_some _ _).symm.trans H; with_reducible exact H2_) | with_reducible exact H | (rw [hy244]; exact H) | exact H
          have Ny244 := Aside0.mk hy244
          clear hy244
          have H' := Aside0.mk H
          clear H
          go_wp2_with (first | ((with_reducible refine gate_dst (N := 34) rfl ?_); (try (refine gate_guard (by rfl) ?_; dsimp only)); refine Kd.R_lit (Kd.int .i64) _ 3 ?hg (N := 34) ?hd (xs := ([wrap64 (Int.tdiv t243 65280)] : List Int)) (inner := [.int .i64 (wrap64 (Int.tdiv t243 65280))]) (ok := fun _ => True) (okp := fun _ => True) ?hr ?hp (fun _ hk => hk) trivial (Below.refl _ _) (Nat.le_refl _) (by simp) ?_; (case hd => rfl); (case hg => rfl); (case hr => first | (go_simp; done) | (go_simp; rfl)); (case hp => exact (Reps.one (show Kd.M (Kd.int .i64) _ _ _ (wrap64 (Int.tdiv t243 65280)) [.int .i64 (wrap64 (Int.tdiv t243 65280))] from rfl) (Reps.none _ _))); intro v245 w34 ho35 hb hg_ hnew_; clear hg_ hnew_; (first | rw [← Ny244.out] at ho35 | (simp only [Int.reduceToNat] at ho35; rw [← Ny244.out] at ho35)); have n0_ := Aside0.mk (Kd.R_lower ho35 (below_size (bl2_ HB GE237 GE241))); have n1_ := Aside0.mk (blk_below (g := gb237) (bk_ BK237) hb); have n2_ := Aside0.mk (blk_below (g := gb241) (bk_ BK241) hb); have n3_ := Aside0.mk (below_step (bl2_ HB GE237 GE241) hb); clear BK237; clear BK241; clear HB; have HO246 := n0_; have BK237 := n1_; have BK241 := n2_; have HB := n3_; clear n0_ n1_ n2_ n3_; clear hb ho35; obtain ⟨Ao36, co36, eo36⟩ := Kd.R_slice HO246.out; subst eo36; have hnb37 := NB241_237.out; have hnc37 := NB237_241.out; refine cz7_ BK241.out ?_; intro hcz38_0 hcz38_1 hcz38_2 hcz38_3 hcz38_4 hcz38_5 hcz38_6 hfz38_0 hfz38_1 hfz38_2 hfz38_3 hfz38_4 hfz38_5 hfz38_6))
          go_meet
          case rel => exact ⟨_, (0), (0), (0), (0), (0), (0), (0), (y244), (0), (0), (0), (.slice Ao36 y244.length co36), H', ⟨by have := HJ25.out; first | omega | exact Nat.le_refl _⟩, ⟨by (with_reducible repeat (first | apply Kd.R_alloc | apply Kd.R_drewN | apply Kd.R_drew)); exact Kd.R_mono (Kd.R_far (p := ⟨gb241, 3, none⟩) (Kd.R_types HO246.out BK241.out (by decide)) (fun _ hk => hk.2) (.slice Ao36 y244.length co36)) (fun _ hk => trivial)⟩, ⟨by (with_reducible repeat (first | refine blk_drewN ?_ _ | refine blk_drew ?_ | refine blk_alloc ?_ _)); refine blk_far ?_ NB237_241.out _; (with_reducible repeat (first | refine blk_drewN ?_ _ | refine blk_drew ?_ | refine blk_alloc ?_ _)); exact BK237.out⟩, ⟨by (with_reducible repeat (first | refine blk_drewN ?_ _ | refine blk_drew ?_ | refine blk_alloc ?_ _)); refine blk_put (cs := #[.int .i64 (wrap64 (rd l0 0)), .int .i64 t240, .int .i64 0, .slice none 0 0, .int .i64 0, .int .i64 0, .int .i64 0]) ?_ 3 _ rfl; (with_reducible repeat (first | refine blk_drewN ?_ _ | refine blk_drew ?_ | refine blk_alloc ?_ _)); exact BK241.out⟩, ⟨bl2_ HB GE237 GE241⟩⟩
         ·rw [if_neg c33] at H
          have c33b0 : ((wrap64 (rd l0 0)) == 5) = false := beq_eq_false_iff_ne.mpr c33
          have c33b1 : ((wrap64 (rd l0 0)) != 5) = true := bne_iff_ne.mpr c33
          by_cases c39 : (wrap64 (rd l0 0)) = 6
          ·rw [if_pos c39] at H
           have c39b0 : ((wrap64 (rd l0 0)) == 6) = true := beq_iff_eq.mpr c39
           have c39b1 : ((wrap64 (rd l0 0)) != 6) = false := bne_eq_false_iff_eq.mpr c39
           clear c39
           obtain ⟨y247, hy247⟩ : ∃ y_ : List Int, y_ = (([t243] : List Int)) := ⟨_, rfl⟩
           replace H : (basculeref03_Parse.j1 kj25 l0 (wrap64 (rd l0 0)) t240 0 y247 0 0 0) = some (r1, r2, r3, r4, r5, r6, r7, r8) := by first | (rw [hy247]; with_reducible exact H) | (have H2_ := (Option.bind_some _ _).symm.trans H; rw [hy247]; with_reducible exact H2_) | (have H2_ := (Option.bind_some _ _).symm.trans H; with_reducible exact H2_) | with_reducible exact H | (rw [hy247]; exact H) | exact H
           have Ny247 := Aside0.mk hy247
           clear hy247
           have H' := Aside0.mk H
           clear H
           go_wp2_with (first | ((with_reducible refine gate_dst (N := 39) rfl ?_); (try (refine gate_guard (by rfl) ?_; dsimp only)); refine Kd.R_lit (Kd.int .i64) _ 3 ?hg (N := 39) ?hd (xs := ([t243] : List Int)) (inner := [.int .i64 t243]) (ok := fun _ => True) (okp := fun _ => True) ?hr ?hp (fun _ hk => hk) trivial (Below.refl _ _) (Nat.le_refl _) (by simp) ?_; (case hd => rfl); (case hg => rfl); (case hr => first | (go_simp; done) | (go_simp; rfl)); (case hp => exact (Reps.one (show Kd.M (Kd.int .i64) _ _ _ t243 [.int .i64 t243] from rfl) (Reps.none _ _))); intro v248 w40 ho41 hb hg_ hnew_; clear hg_ hnew_; (first | rw [← Ny247.out] at ho41 | (simp only [Int.reduceToNat] at ho41; rw [← Ny247.out] at ho41)); have n0_ := Aside0.mk (Kd.R_lower ho41 (below_size (bl2_ HB GE237 GE241))); have n1_ := Aside0.mk (blk_below (g := gb237) (bk_ BK237) hb); have n2_ := Aside0.mk (blk_below (g := gb241) (bk_ BK241) hb); have n3_ := Aside0.mk (below_step (bl2_ HB GE237 GE241) hb); clear BK237; clear BK241; clear HB; have HO249 := n0_; have BK237 := n1_; have BK241 := n2_; have HB := n3_; clear n0_ n1_ n2_ n3_; clear hb ho41; obtain ⟨Ao42, co42, eo42⟩ := Kd.R_slice HO249.out; subst eo42; have hnb43 := NB241_237.out; have hnc43 := NB237_241.out; refine cz7_ BK241.out ?_; intro hcz44_0 hcz44_1 hcz44_2 hcz44_3 hcz44_4 hcz44_5 hcz44_6 hfz44_0 hfz44_1 hfz44_2 hfz44_3 hfz44_4 hfz44_5 hfz44_6))
           go_meet
           case rel => exact ⟨_, (0), (0), (0), (0), (0), (0), (0), (y247), (0), (0), (0), (.slice Ao42 y247.length co42), H', ⟨by have := HJ25.out; first | omega | exact Nat.le_refl _⟩, ⟨by (with_reducible repeat (first | apply Kd.R_alloc | apply Kd.R_drewN | apply Kd.R_drew)); exact Kd.R_mono (Kd.R_far (p := ⟨gb241, 3, none⟩) (Kd.R_types HO249.out BK241.out (by decide)) (fun _ hk => hk.2) (.slice Ao42 y247.length co42)) (fun _ hk => trivial)⟩, ⟨by (with_reducible repeat (first | refine blk_drewN ?_ _ | refine blk_drew ?_ | refine blk_alloc ?_ _)); refine blk_far ?_ NB237_241.out _; (with_reducible repeat (first | refine blk_drewN ?_ _ | refine blk_drew ?_ | refine blk_alloc ?_ _)); exact BK237.out⟩, ⟨by (with_reducible repeat (first | refine blk_drewN ?_ _ | refine blk_drew ?_ | refine blk_alloc ?_ _)); refine blk_put (cs := #[.int .i64 (wrap64 (rd l0 0)), .int .i64 t240, .int .i64 0, .slice none 0 0, .int .i64 0, .int .i64 0, .int .i64 0]) ?_ 3 _ rfl; (with_reducible repeat (first | refine blk_drewN ?_ _ | refine blk_drew ?_ | refine blk_alloc ?_ _)); exact BK241.out⟩, ⟨bl2_ HB GE237 GE241⟩⟩
          ·rw [if_neg c39] at H
           have c39b0 : ((wrap64 (rd l0 0)) == 6) = false := beq_eq_false_iff_ne.mpr c39
           have c39b1 : ((wrap64 (rd l0 0)) != 6) = true := bne_iff_ne.mpr c39
           by_cases c45 : (wrap64 (rd l0 0)) = 15
           ·rw [if_pos c45] at H
            have c45b0 : ((wrap64 (rd l0 0)) == 15) = true := beq_iff_eq.mpr c45
            have c45b1 : ((wrap64 (rd l0 0)) != 15) = false := bne_eq_false_iff_eq.mpr c45
            clear c45
            by_cases c46 : (l0.length : Int) < 6
            ·rw [if_pos c46] at H
             have c46b0 : decide ((l0.length : Int) < 6) = true := decide_eq_true c46
             have c46b1 : decide (l0.length < 6) = true := decide_eq_true (by omega)
             clear c46
             simp only [Option.some.injEq, Prod.mk.injEq] at H
             obtain ⟨rfl, rfl, rfl, rfl, rfl, rfl, rfl, rfl⟩ := H
             have hnb47 := NB241_237.out
             have hnc47 := NB237_241.out
             refine cz7_ BK241.out ?_; intro hcz48_0 hcz48_1 hcz48_2 hcz48_3 hcz48_4 hcz48_5 hcz48_6 hfz48_0 hfz48_1 hfz48_2 hfz48_3 hfz48_4 hfz48_5 hfz48_6
             refine cz7_ BK237.out ?_; intro hcz49_0 hcz49_1 hcz49_2 hcz49_3 hcz49_4 hcz49_5 hcz49_6 hfz49_0 hfz49_1 hfz49_2 hfz49_3 hfz49_4 hfz49_5 hfz49_6
             go_wp2
             refine bodyPost_ret (results_ct rfl _ _ gb237 24 #[.int .i64 0, .int .i64 0, .int .i64 0, .slice none 0 0, .int .i64 0, .int .i64 0, .int .i64 0] (0, 0) _ rfl (by (with_reducible repeat (first | refine blk_drewN ?_ _ | refine blk_drew ?_ | refine blk_alloc ?_ _)); refine blk_put (cs := #[.int .i64 0, .int .i64 0, .int .i64 0, .slice none 0 0, .int .i64 0, .int .i64 0, .int .i64 0]) ?_ 6 _ rfl; (with_reducible repeat (first | refine blk_drewN ?_ _ | refine blk_drew ?_ | refine blk_alloc ?_ _)); refine blk_put (cs := #[.int .i64 0, .int .i64 0, .int .i64 0, .slice none 0 0, .int .i64 0, .int .i64 0, .int .i64 0]) ?_ 5 _ rfl; (with_reducible repeat (first | refine blk_drewN ?_ _ | refine blk_drew ?_ | refine blk_alloc ?_ _)); refine blk_put (cs := #[.int .i64 0, .int .i64 0, .int .i64 0, .slice none 0 0, .int .i64 0, .int .i64 0, .int .i64 0]) ?_ 4 _ rfl; (with_reducible repeat (first | refine blk_drewN ?_ _ | refine blk_drew ?_ | refine blk_alloc ?_ _)); refine blk_put (cs := #[.int .i64 0, .int .i64 0, .int .i64 0, .slice none 0 0, .int .i64 0, .int .i64 0, .int .i64 0]) ?_ 3 _ rfl; (with_reducible repeat (first | refine blk_drewN ?_ _ | refine blk_drew ?_ | refine blk_alloc ?_ _)); refine blk_put (cs := #[.int .i64 0, .int .i64 0, .int .i64 0, .slice none 0 0, .int .i64 0, .int .i64 0, .int .i64 0]) ?_ 2 _ rfl; (with_reducible repeat (first | refine blk_drewN ?_ _ | refine blk_drew ?_ | refine blk_alloc ?_ _)); refine blk_put (cs := #[.int .i64 0, .int .i64 0, .int .i64 0, .slice none 0 0, .int .i64 0, .int .i64 0, .int .i64 0]) ?_ 1 _ rfl; (with_reducible repeat (first | refine blk_drewN ?_ _ | refine blk_drew ?_ | refine blk_alloc ?_ _)); refine blk_put (cs := #[.int .i64 0, .int .i64 0, .int .i64 0, .slice none 0 0, .int .i64 0, .int .i64 0, .int .i64 0]) ?_ 0 _ rfl; (with_reducible repeat (first | refine blk_drewN ?_ _ | refine blk_drew ?_ | refine blk_alloc ?_ _)); refine blk_far ?_ NB237_241.out _; (with_reducible repeat (first | refine blk_drewN ?_ _ | refine blk_drew ?_ | refine blk_alloc ?_ _)); exact BK237.out) Try.underlying24 rfl (by kernel_rfl)) rfl ?_
             exact ⟨_, er_, by first | exact Kd.R_nil _ _ _ _ _ | exact Kd.N_nil _ _ _ _ _ | exact Kd.V_nil _ _ _ _ _ | exact Kd.Q_nil _ _ _ _ _ | exact Kd.S_nil _ _ _ _ _, bl2_ HB GE237 GE241⟩
            ·rw [if_neg c46] at H
             have c46b0 : decide ((l0.length : Int) < 6) = false := decide_eq_false c46
             have c46b1 : decide (l0.length < 6) = false := decide_eq_false (by omega)
             clear c46
             by_cases c50 : t243 > (wrap64 (8 * (wrap64 ((l0.length : Int) - 6))))
             ·rw [if_pos c50] at H
              have c50b0 : decide ((wrap64 (8 * (wrap64 ((l0.length : Int) - 6)))) < t243) = true := decide_eq_true c50
              clear c50
              simp only [Option.some.injEq, Prod.mk.injEq] at H
              obtain ⟨rfl, rfl, rfl, rfl, rfl, rfl, rfl, rfl⟩ := H
              have hnb51 := NB241_237.out
              have hnc51 := NB237_241.out
              refine cz7_ BK241.out ?_; intro hcz52_0 hcz52_1 hcz52_2 hcz52_3 hcz52_4 hcz52_5 hcz52_6 hfz52_0 hfz52_1 hfz52_2 hfz52_3 hfz52_4 hfz52_5 hfz52_6
              refine cz7_ BK237.out ?_; intro hcz53_0 hcz53_1 hcz53_2 hcz53_3 hcz53_4 hcz53_5 hcz53_6 hfz53_0 hfz53_1 hfz53_2 hfz53_3 hfz53_4 hfz53_5 hfz53_6
              go_wp2
              refine bodyPost_ret (results_ct rfl _ _ gb237 24 #[.int .i64 0, .int .i64 0, .int .i64 0, .slice none 0 0, .int .i64 0, .int .i64 0, .int .i64 0] (0, 0) _ rfl (by (with_reducible repeat (first | refine blk_drewN ?_ _ | refine blk_drew ?_ | refine blk_alloc ?_ _)); refine blk_put (cs := #[.int .i64 0, .int .i64 0, .int .i64 0, .slice none 0 0, .int .i64 0, .int .i64 0, .int .i64 0]) ?_ 6 _ rfl; (with_reducible repeat (first | refine blk_drewN ?_ _ | refine blk_drew ?_ | refine blk_alloc ?_ _)); refine blk_put (cs := #[.int .i64 0, .int .i64 0, .int .i64 0, .slice none 0 0, .int .i64 0, .int .i64 0, .int .i64 0]) ?_ 5 _ rfl; (with_reducible repeat (first | refine blk_drewN ?_ _ | refine blk_drew ?_ | refine blk_alloc ?_ _)); refine blk_put (cs := #[.int .i64 0, .int .i64 0, .int .i64 0, .slice none 0 0, .int .i64 0, .int .i64 0, .int .i64 0]) ?_ 4 _ rfl; (with_reducible repeat (first | refine blk_drewN ?_ _ | refine blk_drew ?_ | refine blk_alloc ?_ _)); refine blk_put (cs := #[.int .i64 0, .int .i64 0, .int .i64 0, .slice none 0 0, .int .i64 0, .int .i64 0, .int .i64 0]) ?_ 3 _ rfl; (with_reducible repeat (first | refine blk_drewN ?_ _ | refine blk_drew ?_ | refine blk_alloc ?_ _)); refine blk_put (cs := #[.int .i64 0, .int .i64 0, .int .i64 0, .slice none 0 0, .int .i64 0, .int .i64 0, .int .i64 0]) ?_ 2 _ rfl; (with_reducible repeat (first | refine blk_drewN ?_ _ | refine blk_drew ?_ | refine blk_alloc ?_ _)); refine blk_put (cs := #[.int .i64 0, .int .i64 0, .int .i64 0, .slice none 0 0, .int .i64 0, .int .i64 0, .int .i64 0]) ?_ 1 _ rfl; (with_reducible repeat (first | refine blk_drewN ?_ _ | refine blk_drew ?_ | refine blk_alloc ?_ _)); refine blk_put (cs := #[.int .i64 0, .int .i64 0, .int .i64 0, .slice none 0 0, .int .i64 0, .int .i64 0, .int .i64 0]) ?_ 0 _ rfl; (with_reducible repeat (first | refine blk_drewN ?_ _ | refine blk_drew ?_ | refine blk_alloc ?_ _)); refine blk_far ?_ NB237_241.out _; (with_reducible repeat (first | refine blk_drewN ?_ _ | refine blk_drew ?_ | refine blk_alloc ?_ _)); exact BK237.out) Try.underlying24 rfl (by kernel_rfl)) rfl ?_
              exact ⟨_, er_, by first | exact Kd.R_nil _ _ _ _ _ | exact Kd.N_nil _ _ _ _ _ | exact Kd.V_nil _ _ _ _ _ | exact Kd.Q_nil _ _ _ _ _ | exact Kd.S_nil _ _ _ _ _, bl2_ HB GE237 GE241⟩
             ·rw [if_neg c50] at H
              have c50b0 : decide ((wrap64 (8 * (wrap64 ((l0.length : Int) - 6)))) < t243) = false := decide_eq_false c50
              clear c50
              by_cases c54 : 6 ≤ (l0.length : Int)
              ·rw [if_pos c54] at H
               have c54b0 := eq_true c54
               have c54b1 : decide (6 ≤ (l0.length : Int)) = true := decide_eq_true c54
               clear c54
               replace H := Option.bind_eq_some_iff.mp H
               obtain ⟨t251, A550, H⟩ := H
               replace H : (basculeref03_Parse.j1 kj25 l0 (wrap64 (rd l0 0)) t240 t243 t251 0 0 0) = some (r1, r2, r3, r4, r5, r6, r7, r8) := H
               have A55 := Aside0.mk A550
               clear A550
               have H' := Aside0.mk H
               clear H
               have hnb56 := NB241_237.out
               have hnc56 := NB237_241.out
               refine cz7_ BK241.out ?_; intro hcz57_0 hcz57_1 hcz57_2 hcz57_3 hcz57_4 hcz57_5 hcz57_6 hfz57_0 hfz57_1 hfz57_2 hfz57_3 hfz57_4 hfz57_5 hfz57_6
               obtain ⟨i058, hi058, _, hsz58, _⟩ := info_parts info5
               obtain ⟨A58, hcut58, hA58, hC58⟩ := print_drop_of (P := Try.prog) (Value.int .u8) 0 58 5 .i64 Try.underlying58 hi058 hsz58 (some ad238) c0 l0 6 (by omega) (of_decide_eq_true (by first | (with_reducible assumption) | assumption)) HC0.out
               have HR250 := Aside0.mk (Kd.C_of_reads (h1 := fun _ => rfl) (hA58 _ (Kd.reads_of_C HR0.out)))
               have HC250 := Aside0.mk hC58
               clear hA58 hC58 hi058 hsz58
               go_wp2_with (first | ((with_reducible refine gate_callee (f := 64) rfl ?_); refine goesL_ (some 60) rfl rfl Try.func64 (by kernel_rfl) rfl #[.slice A58 (l0.drop 6).length (c0 - 6), .int .i64 t243] rfl (by (try simp only [List.map_toArray, List.map_cons, List.map_nil]); first | done | (rw [show (l0.drop 6).length = (l0.length - 6) from List.length_drop] <;> rfl) | rfl | (simp only [List.length_drop, List.length_take]; rfl)) ?_; (with_reducible refine (basculeref01_Unpack.calls kj25 _ _ (l0.drop 6) t243 t251 _ ?side1 ?side2 A55.out).mono ?_); (case side1 => exact Kd.C_below HR250.out (bl2_ HB GE237 GE241)); (case side2 => exact HC250.out); rintro e w59 ⟨v252, rfl, ho0, hb⟩; refine ⟨_, rfl, ?_⟩; have n0_ := Aside0.mk (Kd.R_lower ho0 (below_size (bl2_ HB GE237 GE241))); have n1_ := Aside0.mk (blk_below (g := gb237) (o := .cells #[.int .i64 0, .int .i64 0, .int .i64 0, .slice none 0 0, .int .i64 0, .int .i64 0, .int .i64 0] 24 (0, 0)) (by (with_reducible repeat (first | refine blk_drewN ?_ _ | refine blk_drew ?_ | refine blk_alloc ?_ _)); refine blk_far ?_ NB237_241.out _; (with_reducible repeat (first | refine blk_drewN ?_ _ | refine blk_drew ?_ | refine blk_alloc ?_ _)); exact BK237.out) hb); have n2_ := Aside0.mk (blk_below (g := gb241) (o := .cells #[.int .i64 (wrap64 (rd l0 0)), .int .i64 t240, .int .i64 t243, .slice none 0 0, .int .i64 0, .int .i64 0, .int .i64 0] 24 (0, 0)) (by (with_reducible repeat (first | refine blk_drewN ?_ _ | refine blk_drew ?_ | refine blk_alloc ?_ _)); refine blk_put (cs := #[.int .i64 (wrap64 (rd l0 0)), .int .i64 t240, .int .i64 0, .slice none 0 0, .int .i64 0, .int .i64 0, .int .i64 0]) ?_ 2 _ rfl; (with_reducible repeat (first | refine blk_drewN ?_ _ | refine blk_drew ?_ | refine blk_alloc ?_ _)); exact BK241.out) hb); have n3_ := Aside0.mk (below_step (bl2_ HB GE237 GE241) hb); clear BK237; clear BK241; clear HB; have HO253 := n0_; have BK237 := n1_; have BK241 := n2_; have HB := n3_; clear n0_ n1_ n2_ n3_; (try clear hb); (try clear hb2); (try clear hk); (try clear hi); (try clear ho0); obtain ⟨Ao60, co60, eo60⟩ := Kd.R_slice HO253.out; subst eo60; refine cz7_ BK241.out ?_; intro hcz61_0 hcz61_1 hcz61_2 hcz61_3 hcz61_4 hcz61_5 hcz61_6 hfz61_0 hfz61_1 hfz61_2 hfz61_3 hfz61_4 hfz61_5 hfz61_6))
               go_meet
               case rel => exact ⟨_, (0), (0), (0), (0), (0), (0), (t243), (t251), (0), (0), (0), (.slice Ao60 t251.length co60), H', ⟨by have := HJ25.out; first | omega | exact Nat.le_refl _⟩, ⟨by (with_reducible repeat (first | apply Kd.R_alloc | apply Kd.R_drewN | apply Kd.R_drew)); exact Kd.R_mono (Kd.R_far (p := ⟨gb241, 3, none⟩) (Kd.R_types HO253.out BK241.out (by decide)) (fun _ hk => hk.2) (.slice Ao60 t251.length co60)) (fun _ hk => trivial)⟩, ⟨by (with_reducible repeat (first | refine blk_drewN ?_ _ | refine blk_drew ?_ | refine blk_alloc ?_ _)); refine blk_far ?_ NB237_241.out _; (with_reducible repeat (first | refine blk_drewN ?_ _ | refine blk_drew ?_ | refine blk_alloc ?_ _)); exact BK237.out⟩, ⟨by (with_reducible repeat (first | refine blk_drewN ?_ _ | refine blk_drew ?_ | refine blk_alloc ?_ _)); refine blk_put (cs := #[.int .i64 (wrap64 (rd l0 0)), .int .i64 t240, .int .i64 t243, .slice none 0 0, .int .i64 0, .int .i64 0, .int .i64 0]) ?_ 3 _ rfl; (with_reducible repeat (first | refine blk_drewN ?_ _ | refine blk_drew ?_ | refine blk_alloc ?_ _)); exact BK241.out⟩, ⟨bl2_ HB GE237 GE241⟩⟩
              ·rw [if_neg c54] at H
               exact absurd H (by simp)
           ·rw [if_neg c45] at H
            have c45b0 : ((wrap64 (rd l0 0)) == 15) = false := beq_eq_false_iff_ne.mpr c45
            have c45b1 : ((wrap64 (rd l0 0)) != 15) = true := bne_iff_ne.mpr c45
            by_cases c62 : (wrap64 (rd l0 0)) = 16
            ·rw [if_pos c62] at H
             have c62b0 : ((wrap64 (rd l0 0)) == 16) = true := beq_iff_eq.mpr c62
             have c62b1 : ((wrap64 (rd l0 0)) != 16) = false := bne_eq_false_iff_eq.mpr c62
             clear c62
             by_cases c63 : (l0.length : Int) < 6
             ·rw [if_pos c63] at H
              have c63b0 : decide ((l0.length : Int) < 6) = true := decide_eq_true c63
              have c63b1 : decide (l0.length < 6) = true := decide_eq_true (by omega)
              clear c63
              simp only [Option.some.injEq, Prod.mk.injEq] at H
              obtain ⟨rfl, rfl, rfl, rfl, rfl, rfl, rfl, rfl⟩ := H
              have hnb64 := NB241_237.out
              have hnc64 := NB237_241.out
              refine cz7_ BK241.out ?_; intro hcz65_0 hcz65_1 hcz65_2 hcz65_3 hcz65_4 hcz65_5 hcz65_6 hfz65_0 hfz65_1 hfz65_2 hfz65_3 hfz65_4 hfz65_5 hfz65_6
              refine cz7_ BK237.out ?_; intro hcz66_0 hcz66_1 hcz66_2 hcz66_3 hcz66_4 hcz66_5 hcz66_6 hfz66_0 hfz66_1 hfz66_2 hfz66_3 hfz66_4 hfz66_5 hfz66_6
              go_wp2
              refine bodyPost_ret (results_ct rfl _ _ gb237 24 #[.int .i64 0, .int .i64 0, .int .i64 0, .slice none 0 0, .int .i64 0, .int .i64 0, .int .i64 0] (0, 0) _ rfl (by (with_reducible repeat (first | refine blk_drewN ?_ _ | refine blk_drew ?_ | refine blk_alloc ?_ _)); refine blk_put (cs := #[.int .i64 0, .int .i64 0, .int .i64 0, .slice none 0 0, .int .i64 0, .int .i64 0, .int .i64 0]) ?_ 6 _ rfl; (with_reducible repeat (first | refine blk_drewN ?_ _ | refine blk_drew ?_ | refine blk_alloc ?_ _)); refine blk_put (cs := #[.int .i64 0, .int .i64 0, .int .i64 0, .slice none 0 0, .int .i64 0, .int .i64 0, .int .i64 0]) ?_ 5 _ rfl; (with_reducible repeat (first | refine blk_drewN ?_ _ | refine blk_drew ?_ | refine blk_alloc ?_ _)); refine blk_put (cs := #[.int .i64 0, .int .i64 0, .int .i64 0, .slice none 0 0, .int .i64 0, .int .i64 0, .int .i64 0]) ?_ 4 _ rfl; (with_reducible repeat (first | refine blk_drewN ?_ _ | refine blk_drew ?_ | refine blk_alloc ?_ _)); refine blk_put (cs := #[.int .i64 0, .int .i64 0, .int .i64 0, .slice none 0 0, .int .i64 0, .int .i64 0, .int .i64 0]) ?_ 3 _ rfl; (with_reducible repeat (first | refine blk_drewN ?_ _ | refine blk_drew ?_ | refine blk_alloc ?_ _)); refine blk_put (cs := #[.int .i64 0, .int .i64 0, .int .i64 0, .slice none 0 0, .int .i64 0, .int .i64 0, .int .i64 0]) ?_ 2 _ rfl; (with_reducible repeat (first | refine blk_drewN ?_ _ | refine blk_drew ?_ | refine blk_alloc ?_ _)); refine blk_put (cs := #[.int .i64 0, .int .i64 0, .int .i64 0, .slice none 0 0, .int .i64 0, .int .i64 0, .int .i64 0]) ?_ 1 _ rfl; (with_reducible repeat (first | refine blk_drewN ?_ _ | refine blk_drew ?_ | refine blk_alloc ?_ _)); refine blk_put (cs := #[.int .i64 0, .int .i64 0, .int .i64 0, .slice none 0 0, .int .i64 0, .int .i64 0, .int .i64 0]) ?_ 0 _ rfl; (with_reducible repeat (first | refine blk_drewN ?_ _ | refine blk_drew ?_ | refine blk_alloc ?_ _)); refine blk_far ?_ NB237_241.out _; (with_reducible repeat (first | refine blk_drewN ?_ _ | refine blk_drew ?_ | refine blk_alloc ?_ _)); exact BK237.out) Try.underlying24 rfl (by kernel_rfl)) rfl ?_
              exact ⟨_, er_, by first | exact Kd.R_nil _ _ _ _ _ | exact Kd.N_nil _ _ _ _ _ | exact Kd.V_nil _ _ _ _ _ | exact Kd.Q_nil _ _ _ _ _ | exact Kd.S_nil _ _ _ _ _, bl2_ HB GE237 GE241⟩
             ·rw [if_neg c63] at H
              have c63b0 : decide ((l0.length : Int) < 6) = false := decide_eq_false c63
              have c63b1 : decide (l0.length < 6) = false := decide_eq_false (by omega)
              clear c63
              by_cases c67 : 6 ≤ (l0.length : Int)
              ·rw [if_pos c67] at H
               have c67b0 := eq_true c67
               have c67b1 : decide (6 ≤ (l0.length : Int)) = true := decide_eq_true c67
               clear c67
               replace H := Option.bind_eq_some_iff.mp H
               obtain ⟨t255, A680, H⟩ := H
               replace H : (basculeref03_Parse.j1 kj25 l0 (wrap64 (rd l0 0)) t240 t243 t255 0 0 0) = some (r1, r2, r3, r4, r5, r6, r7, r8) := H
               have A68 := Aside0.mk A680
               clear A680
               have H' := Aside0.mk H
               clear H
               have hnb69 := NB241_237.out
               have hnc69 := NB237_241.out
               refine cz7_ BK241.out ?_; intro hcz70_0 hcz70_1 hcz70_2 hcz70_3 hcz70_4 hcz70_5 hcz70_6 hfz70_0 hfz70_1 hfz70_2 hfz70_3 hfz70_4 hfz70_5 hfz70_6
               obtain ⟨i071, hi071, _, hsz71, _⟩ := info_parts info5
               obtain ⟨A71, hcut71, hA71, hC71⟩ := print_drop_of (P := Try.prog) (Value.int .u8) 0 58 5 .i64 Try.underlying58 hi071 hsz71 (some ad238) c0 l0 6 (by omega) (of_decide_eq_true (by first | (with_reducible assumption) | assumption)) HC0.out
               have HR254 := Aside0.mk (Kd.C_of_reads (h1 := fun _ => rfl) (hA71 _ (Kd.reads_of_C HR0.out)))
               have HC254 := Aside0.mk hC71
               clear hA71 hC71 hi071 hsz71
               go_wp2_with (first | ((with_reducible refine gate_callee (f := 65) rfl ?_); refine goesL_ (some 72) rfl rfl Try.func65 (by kernel_rfl) rfl #[.slice A71 (l0.drop 6).length (c0 - 6)] rfl (by (try simp only [List.map_toArray, List.map_cons, List.map_nil]); first | done | (rw [show (l0.drop 6).length = (l0.length - 6) from List.length_drop] <;> rfl) | rfl | (simp only [List.length_drop, List.length_take]; rfl)) ?_; (with_reducible refine (basculeref03_read.calls kj25 _ _ (l0.drop 6) t255 _ ?side1 ?side2 A68.out).mono ?_); (case side1 => exact Kd.C_below HR254.out (bl2_ HB GE237 GE241)); (case side2 => exact HC254.out); rintro e w72 ⟨v256, rfl, ho0, hb⟩; refine ⟨_, rfl, ?_⟩; have n0_ := Aside0.mk (Kd.R_lower ho0 (below_size (bl2_ HB GE237 GE241))); have n1_ := Aside0.mk (blk_below (g := gb237) (o := .cells #[.int .i64 0, .int .i64 0, .int .i64 0, .slice none 0 0, .int .i64 0, .int .i64 0, .int .i64 0] 24 (0, 0)) (by (with_reducible repeat (first | refine blk_drewN ?_ _ | refine blk_drew ?_ | refine blk_alloc ?_ _)); refine blk_far ?_ NB237_241.out _; (with_reducible repeat (first | refine blk_drewN ?_ _ | refine blk_drew ?_ | refine blk_alloc ?_ _)); exact BK237.out) hb); have n2_ := Aside0.mk (blk_below (g := gb241) (o := .cells #[.int .i64 (wrap64 (rd l0 0)), .int .i64 t240, .int .i64 t243, .slice none 0 0, .int .i64 0, .int .i64 0, .int .i64 0] 24 (0, 0)) (by (with_reducible repeat (first | refine blk_drewN ?_ _ | refine blk_drew ?_ | refine blk_alloc ?_ _)); refine blk_put (cs := #[.int .i64 (wrap64 (rd l0 0)), .int .i64 t240, .int .i64 0, .slice none 0 0, .int .i64 0, .int .i64 0, .int .i64 0]) ?_ 2 _ rfl; (with_reducible repeat (first | refine blk_drewN ?_ _ | refine blk_drew ?_ | refine blk_alloc ?_ _)); exact BK241.out) hb); have n3_ := Aside0.mk (below_step (bl2_ HB GE237 GE241) hb); clear BK237; clear BK241; clear HB; have HO257 := n0_; have BK237 := n1_; have BK241 := n2_; have HB := n3_; clear n0_ n1_ n2_ n3_; (try clear hb); (try clear hb2); (try clear hk); (try clear hi); (try clear ho0); obtain ⟨Ao73, co73, eo73⟩ := Kd.R_slice HO257.out; subst eo73; refine cz7_ BK241.out ?_; intro hcz74_0 hcz74_1 hcz74_2 hcz74_3 hcz74_4 hcz74_5 hcz74_6 hfz74_0 hfz74_1 hfz74_2 hfz74_3 hfz74_4 hfz74_5 hfz74_6))
               go_meet
               case rel => exact ⟨_, (0), (0), (0), (0), (0), (0), (t243), (t255), (0), (0), (0), (.slice Ao73 t255.length co73), H', ⟨by have := HJ25.out; first | omega | exact Nat.le_refl _⟩, ⟨by (with_reducible repeat (first | apply Kd.R_alloc | apply Kd.R_drewN | apply Kd.R_drew)); exact Kd.R_mono (Kd.R_far (p := ⟨gb241, 3, none⟩) (Kd.R_types HO257.out BK241.out (by decide)) (fun _ hk => hk.2) (.slice Ao73 t255.length co73)) (fun _ hk => trivial)⟩, ⟨by (with_reducible repeat (first | refine blk_drewN ?_ _ | refine blk_drew ?_ | refine blk_alloc ?_ _)); refine blk_far ?_ NB237_241.out _; (with_reducible repeat (first | refine blk_drewN ?_ _ | refine blk_drew ?_ | refine blk_alloc ?_ _)); exact BK237.out⟩, ⟨by (with_reducible repeat (first | refine blk_drewN ?_ _ | refine blk_drew ?_ | refine blk_alloc ?_ _)); refine blk_put (cs := #[.int .i64 (wrap64 (rd l0 0)), .int .i64 t240, .int .i64 t243, .slice none 0 0, .int .i64 0, .int .i64 0, .int .i64 0]) ?_ 3 _ rfl; (with_reducible repeat (first | refine blk_drewN ?_ _ | refine blk_drew ?_ | refine blk_alloc ?_ _)); exact BK241.out⟩, ⟨bl2_ HB GE237 GE241⟩⟩
              ·rw [if_neg c67] at H
               exact absurd H (by simp)
            ·rw [if_neg c62] at H
             have c62b0 : ((wrap64 (rd l0 0)) == 16) = false := beq_eq_false_iff_ne.mpr c62
             have c62b1 : ((wrap64 (rd l0 0)) != 16) = true := bne_iff_ne.mpr c62
             by_cases c75 : (wrap64 (rd l0 0)) = 22
             ·rw [if_pos c75] at H
              have c75b0 : ((wrap64 (rd l0 0)) == 22) = true := beq_iff_eq.mpr c75
              have c75b1 : ((wrap64 (rd l0 0)) != 22) = false := bne_eq_false_iff_eq.mpr c75
              clear c75
              by_cases c76 : (l0.length : Int) < 7
              ·rw [if_pos c76] at H
               have c76b0 : decide ((l0.length : Int) < 7) = true := decide_eq_true c76
               have c76b1 : decide (l0.length < 7) = true := decide_eq_true (by omega)
               clear c76
               simp only [Option.some.injEq, Prod.mk.injEq] at H
               obtain ⟨rfl, rfl, rfl, rfl, rfl, rfl, rfl, rfl⟩ := H
               have hnb77 := NB237_241.out
               have hnc77 := NB241_237.out
               refine cz7_ BK237.out ?_; intro hcz78_0 hcz78_1 hcz78_2 hcz78_3 hcz78_4 hcz78_5 hcz78_6 hfz78_0 hfz78_1 hfz78_2 hfz78_3 hfz78_4 hfz78_5 hfz78_6
               go_wp2
               refine bodyPost_ret (results_ct rfl _ _ gb237 24 #[.int .i64 0, .int .i64 0, .int .i64 0, .slice none 0 0, .int .i64 0, .int .i64 0, .int .i64 0] (0, 0) _ rfl (by (with_reducible repeat (first | refine blk_drewN ?_ _ | refine blk_drew ?_ | refine blk_alloc ?_ _)); refine blk_put (cs := #[.int .i64 0, .int .i64 0, .int .i64 0, .slice none 0 0, .int .i64 0, .int .i64 0, .int .i64 0]) ?_ 6 _ rfl; (with_reducible repeat (first | refine blk_drewN ?_ _ | refine blk_drew ?_ | refine blk_alloc ?_ _)); refine blk_put (cs := #[.int .i64 0, .int .i64 0, .int .i64 0, .slice none 0 0, .int .i64 0, .int .i64 0, .int .i64 0]) ?_ 5 _ rfl; (with_reducible repeat (first | refine blk_drewN ?_ _ | refine blk_drew ?_ | refine blk_alloc ?_ _)); refine blk_put (cs := #[.int .i64 0, .int .i64 0, .int .i64 0, .slice none 0 0, .int .i64 0, .int .i64 0, .int .i64 0]) ?_ 4 _ rfl; (with_reducible repeat (first | refine blk_drewN ?_ _ | refine blk_drew ?_ | refine blk_alloc ?_ _)); refine blk_put (cs := #[.int .i64 0, .int .i64 0, .int .i64 0, .slice none 0 0, .int .i64 0, .int .i64 0, .int .i64 0]) ?_ 3 _ rfl; (with_reducible repeat (first | refine blk_drewN ?_ _ | refine blk_drew ?_ | refine blk_alloc ?_ _)); refine blk_put (cs := #[.int .i64 0, .int .i64 0, .int .i64 0, .slice none 0 0, .int .i64 0, .int .i64 0, .int .i64 0]) ?_ 2 _ rfl; (with_reducible repeat (first | refine blk_drewN ?_ _ | refine blk_drew ?_ | refine blk_alloc ?_ _)); refine blk_put (cs := #[.int .i64 0, .int .i64 0, .int .i64 0, .slice none 0 0, .int .i64 0, .int .i64 0, .int .i64 0]) ?_ 1 _ rfl; (with_reducible repeat (first | refine blk_drewN ?_ _ | refine blk_drew ?_ | refine blk_alloc ?_ _)); refine blk_put (cs := #[.int .i64 0, .int .i64 0, .int .i64 0, .slice none 0 0, .int .i64 0, .int .i64 0, .int .i64 0]) ?_ 0 _ rfl; (with_reducible repeat (first | refine blk_drewN ?_ _ | refine blk_drew ?_ | refine blk_alloc ?_ _)); exact BK237.out) Try.underlying24 rfl (by kernel_rfl)) rfl ?_
               exact ⟨_, er_, by first | exact Kd.R_nil _ _ _ _ _ | exact Kd.N_nil _ _ _ _ _ | exact Kd.V_nil _ _ _ _ _ | exact Kd.Q_nil _ _ _ _ _ | exact Kd.S_nil _ _ _ _ _, bl2_ HB GE237 GE241⟩
              ·rw [if_neg c76] at H
               have c76b0 : decide ((l0.length : Int) < 7) = false := decide_eq_false c76
               have c76b1 : decide (l0.length < 7) = false := decide_eq_false (by omega)
               clear c76
               by_cases c79 : 5 ≤ (l0.length : Int)
               ·rw [if_pos c79] at H
                have c79b0 := eq_true c79
                have c79b1 : decide (5 ≤ (l0.length : Int)) = true := decide_eq_true c79
                clear c79
                replace H := Option.bind_eq_some_iff.mp H
                obtain ⟨t259, A800, H⟩ := H
                replace H : (basculeref03_Parse.j1 kj25 l0 (wrap64 (rd l0 0)) t240 0 ([] : List Int) 0 t243 t259) = some (r1, r2, r3, r4, r5, r6, r7, r8) := H
                have A80 := Aside0.mk A800
                clear A800
                have H' := Aside0.mk H
                clear H
                have hnb81 := NB241_237.out
                have hnc81 := NB237_241.out
                refine cz7_ BK241.out ?_; intro hcz82_0 hcz82_1 hcz82_2 hcz82_3 hcz82_4 hcz82_5 hcz82_6 hfz82_0 hfz82_1 hfz82_2 hfz82_3 hfz82_4 hfz82_5 hfz82_6
                obtain ⟨i083, hi083, _, hsz83, _⟩ := info_parts info5
                obtain ⟨A83, hcut83, hA83, hC83⟩ := print_drop_of (P := Try.prog) (Value.int .u8) 0 58 5 .i64 Try.underlying58 hi083 hsz83 (some ad238) c0 l0 5 (by omega) (of_decide_eq_true (by first | (with_reducible assumption) | assumption)) HC0.out
                have HR258 := Aside0.mk (Kd.C_of_reads (h1 := fun _ => rfl) (hA83 _ (Kd.reads_of_C HR0.out)))
                have HC258 := Aside0.mk hC83
                clear hA83 hC83 hi083 hsz83
                go_wp2_with (first | ((with_reducible refine gate_callee (f := 63) rfl ?_); refine goesL_ (some 84) rfl rfl Try.func63 (by kernel_rfl) rfl #[.slice A83 (l0.drop 5).length (c0 - 5)] rfl (by (try simp only [List.map_toArray, List.map_cons, List.map_nil]); first | done | (rw [show (l0.drop 5).length = (l0.length - 5) from List.length_drop] <;> rfl) | rfl | (simp only [List.length_drop, List.length_take]; rfl)) ?_; (with_reducible refine (basculeref01_Number.calls _ _ (l0.drop 5) t259 _ ?side1 ?side2 A80.out).mono ?_); (case side1 => exact Kd.C_below HR258.out (bl2_ HB GE237 GE241)); (case side2 => exact HC258.out); rintro e w' ⟨rfl, ⟨nd, rfl⟩⟩; refine ⟨_, rfl, ?_⟩))
                go_meet
                case rel => exact ⟨_, (0), (0), (0), (0), (0), (0), (0), (([] : List Int)), (0), (t243), (t259), (.slice none 0 0), H', ⟨by have := HJ25.out; first | omega | exact Nat.le_refl _⟩, ⟨by first | exact Kd.R_nil _ _ _ _ _ | exact Kd.N_nil _ _ _ _ _ | exact Kd.V_nil _ _ _ _ _ | exact Kd.Q_nil _ _ _ _ _ | exact Kd.S_nil _ _ _ _ _⟩, ⟨by (with_reducible repeat (first | refine blk_drewN ?_ _ | refine blk_drew ?_ | refine blk_alloc ?_ _)); refine blk_far ?_ NB237_241.out _; (with_reducible repeat (first | refine blk_drewN ?_ _ | refine blk_drew ?_ | refine blk_alloc ?_ _)); refine blk_far ?_ NB237_241.out _; (with_reducible repeat (first | refine blk_drewN ?_ _ | refine blk_drew ?_ | refine blk_alloc ?_ _)); exact BK237.out⟩, ⟨by (with_reducible repeat (first | refine blk_drewN ?_ _ | refine blk_drew ?_ | refine blk_alloc ?_ _)); refine blk_put (cs := #[.int .i64 (wrap64 (rd l0 0)), .int .i64 t240, .int .i64 0, .slice none 0 0, .int .i64 0, .int .i64 t243, .int .i64 0]) ?_ 6 _ rfl; (with_reducible repeat (first | refine blk_drewN ?_ _ | refine blk_drew ?_ | refine blk_alloc ?_ _)); refine blk_put (cs := #[.int .i64 (wrap64 (rd l0 0)), .int .i64 t240, .int .i64 0, .slice none 0 0, .int .i64 0, .int .i64 0, .int .i64 0]) ?_ 5 _ rfl; (with_reducible repeat (first | refine blk_drewN ?_ _ | refine blk_drew ?_ | refine blk_alloc ?_ _)); exact BK241.out⟩, ⟨bl2_ HB GE237 GE241⟩⟩
               ·rw [if_neg c79] at H
                exact absurd H (by simp)
             ·rw [if_neg c75] at H
              have c75b0 : ((wrap64 (rd l0 0)) == 22) = false := beq_eq_false_iff_ne.mpr c75
              have c75b1 : ((wrap64 (rd l0 0)) != 22) = true := bne_iff_ne.mpr c75
              by_cases c84 : (wrap64 (rd l0 0)) = 23
              ·rw [if_pos c84] at H
               have c84b0 : ((wrap64 (rd l0 0)) == 23) = true := beq_iff_eq.mpr c84
               have c84b1 : ((wrap64 (rd l0 0)) != 23) = false := bne_eq_false_iff_eq.mpr c84
               clear c84
               by_cases c85 : (l0.length : Int) < 10
               ·rw [if_pos c85] at H
                have c85b0 : decide ((l0.length : Int) < 10) = true := decide_eq_true c85
                have c85b1 : decide (l0.length < 10) = true := decide_eq_true (by omega)
                clear c85
                simp only [Option.some.injEq, Prod.mk.injEq] at H
                obtain ⟨rfl, rfl, rfl, rfl, rfl, rfl, rfl, rfl⟩ := H
                have hnb86 := NB237_241.out
                have hnc86 := NB241_237.out
                refine cz7_ BK237.out ?_; intro hcz87_0 hcz87_1 hcz87_2 hcz87_3 hcz87_4 hcz87_5 hcz87_6 hfz87_0 hfz87_1 hfz87_2 hfz87_3 hfz87_4 hfz87_5 hfz87_6
                go_wp2
                refine bodyPost_ret (results_ct rfl _ _ gb237 24 #[.int .i64 0, .int .i64 0, .int .i64 0, .slice none 0 0, .int .i64 0, .int .i64 0, .int .i64 0] (0, 0) _ rfl (by (with_reducible repeat (first | refine blk_drewN ?_ _ | refine blk_drew ?_ | refine blk_alloc ?_ _)); refine blk_put (cs := #[.int .i64 0, .int .i64 0, .int .i64 0, .slice none 0 0, .int .i64 0, .int .i64 0, .int .i64 0]) ?_ 6 _ rfl; (with_reducible repeat (first | refine blk_drewN ?_ _ | refine blk_drew ?_ | refine blk_alloc ?_ _)); refine blk_put (cs := #[.int .i64 0, .int .i64 0, .int .i64 0, .slice none 0 0, .int .i64 0, .int .i64 0, .int .i64 0]) ?_ 5 _ rfl; (with_reducible repeat (first | refine blk_drewN ?_ _ | refine blk_drew ?_ | refine blk_alloc ?_ _)); refine blk_put (cs := #[.int .i64 0, .int .i64 0, .int .i64 0, .slice none 0 0, .int .i64 0, .int .i64 0, .int .i64 0]) ?_ 4 _ rfl; (with_reducible repeat (first | refine blk_drewN ?_ _ | refine blk_drew ?_ | refine blk_alloc ?_ _)); refine blk_put (cs := #[.int .i64 0, .int .i64 0, .int .i64 0, .slice none 0 0, .int .i64 0, .int .i64 0, .int .i64 0]) ?_ 3 _ rfl; (with_reducible repeat (first | refine blk_drewN ?_ _ | refine blk_drew ?_ | refine blk_alloc ?_ _)); refine blk_put (cs := #[.int .i64 0, .int .i64 0, .int .i64 0, .slice none 0 0, .int .i64 0, .int .i64 0, .int .i64 0]) ?_ 2 _ rfl; (with_reducible repeat (first | refine blk_drewN ?_ _ | refine blk_drew ?_ | refine blk_alloc ?_ _)); refine blk_put (cs := #[.int .i64 0, .int .i64 0, .int .i64 0, .slice none 0 0, .int .i64 0, .int .i64 0, .int .i64 0]) ?_ 1 _ rfl; (with_reducible repeat (first | refine blk_drewN ?_ _ | refine blk_drew ?_ | refine blk_alloc ?_ _)); refine blk_put (cs := #[.int .i64 0, .int .i64 0, .int .i64 0, .slice none 0 0, .int .i64 0, .int .i64 0, .int .i64 0]) ?_ 0 _ rfl; (with_reducible repeat (first | refine blk_drewN ?_ _ | refine blk_drew ?_ | refine blk_alloc ?_ _)); exact BK237.out) Try.underlying24 rfl (by kernel_rfl)) rfl ?_
                exact ⟨_, er_, by first | exact Kd.R_nil _ _ _ _ _ | exact Kd.N_nil _ _ _ _ _ | exact Kd.V_nil _ _ _ _ _ | exact Kd.Q_nil _ _ _ _ _ | exact Kd.S_nil _ _ _ _ _, bl2_ HB GE237 GE241⟩
               ·rw [if_neg c85] at H
                have c85b0 : decide ((l0.length : Int) < 10) = false := decide_eq_false c85
                have c85b1 : decide (l0.length < 10) = false := decide_eq_false (by omega)
                clear c85
                by_cases c88 : 5 ≤ (l0.length : Int)
                ·rw [if_pos c88] at H
                 have c88b0 := eq_true c88
                 have c88b1 : decide (5 ≤ (l0.length : Int)) = true := decide_eq_true c88
                 clear c88
                 replace H := Option.bind_eq_some_iff.mp H
                 obtain ⟨t261, A890, H⟩ := H
                 replace H : (if 10 ≤ (l0.length : Int) then ((basculeref03_read.f kj25 (l0.drop 10)).bind fun t263 => (basculeref03_Parse.j1 kj25 l0 (wrap64 (rd l0 0)) t240 t243 t263 t261 0 0)) else (none)) = some (r1, r2, r3, r4, r5, r6, r7, r8) := H
                 have A89 := Aside0.mk A890
                 clear A890
                 by_cases c90 : 10 ≤ (l0.length : Int)
                 ·rw [if_pos c90] at H
                  have c90b0 := eq_true c90
                  have c90b1 : decide (10 ≤ (l0.length : Int)) = true := decide_eq_true c90
                  clear c90
                  replace H := Option.bind_eq_some_iff.mp H
                  obtain ⟨t263, A910, H⟩ := H
                  replace H : (basculeref03_Parse.j1 kj25 l0 (wrap64 (rd l0 0)) t240 t243 t263 t261 0 0) = some (r1, r2, r3, r4, r5, r6, r7, r8) := H
                  have A91 := Aside0.mk A910
                  clear A910
                  have H' := Aside0.mk H
                  clear H
                  have hnb92 := NB241_237.out
                  have hnc92 := NB237_241.out
                  refine cz7_ BK241.out ?_; intro hcz93_0 hcz93_1 hcz93_2 hcz93_3 hcz93_4 hcz93_5 hcz93_6 hfz93_0 hfz93_1 hfz93_2 hfz93_3 hfz93_4 hfz93_5 hfz93_6
                  obtain ⟨i094, hi094, _, hsz94, _⟩ := info_parts info5
                  obtain ⟨A94, hcut94, hA94, hC94⟩ := print_drop_of (P := Try.prog) (Value.int .u8) 0 58 5 .i64 Try.underlying58 hi094 hsz94 (some ad238) c0 l0 5 (by omega) (of_decide_eq_true (by first | (with_reducible assumption) | assumption)) HC0.out
                  have HR260 := Aside0.mk (Kd.C_of_reads (h1 := fun _ => rfl) (hA94 _ (Kd.reads_of_C HR0.out)))
                  have HC260 := Aside0.mk hC94
                  clear hA94 hC94 hi094 hsz94
                  go_wp2_with (first | ((with_reducible refine gate_callee (f := 63) rfl ?_); refine goesL_ (some 96) rfl rfl Try.func63 (by kernel_rfl) rfl #[.slice A94 (l0.drop 5).length (c0 - 5)] rfl (by (try simp only [List.map_toArray, List.map_cons, List.map_nil]); first | done | (rw [show (l0.drop 5).length = (l0.length - 5) from List.length_drop] <;> rfl) | rfl | (simp only [List.length_drop, List.length_take]; rfl)) ?_; (with_reducible refine (basculeref01_Number.calls _ _ (l0.drop 5) t261 _ ?side1 ?side2 A89.out).mono ?_); (case side1 => exact Kd.C_below HR260.out (bl2_ HB GE237 GE241)); (case side2 => exact HC260.out); rintro e w' ⟨rfl, ⟨nd, rfl⟩⟩; refine ⟨_, rfl, ?_⟩; obtain ⟨i095, hi095, _, hsz95, _⟩ := info_parts info5; obtain ⟨A95, hcut95, hA95, hC95⟩ := print_drop_of (P := Try.prog) (Value.int .u8) 0 58 5 .i64 Try.underlying58 hi095 hsz95 (some ad238) c0 l0 10 (by omega) (of_decide_eq_true (by first | (with_reducible assumption) | assumption)) HC0.out; have HR262 := Aside0.mk (Kd.C_of_reads (h1 := fun _ => rfl) (hA95 _ (Kd.reads_of_C HR0.out))); have HC262 := Aside0.mk hC95; clear hA95 hC95 hi095 hsz95) | ((with_reducible refine gate_callee (f := 65) rfl ?_); refine goesL_ (some 100) rfl rfl Try.func65 (by kernel_rfl) rfl #[.slice A95 (l0.drop 10).length (c0 - 10)] rfl (by (try simp only [List.map_toArray, List.map_cons, List.map_nil]); first | done | (rw [show (l0.drop 10).length = (l0.length - 10) from List.length_drop] <;> rfl) | rfl | (simp only [List.length_drop, List.length_take]; rfl)) ?_; (with_reducible refine (basculeref03_read.calls kj25 _ _ (l0.drop 10) t263 _ ?side1 ?side2 A91.out).mono ?_); (case side1 => exact Kd.C_below HR262.out (bl2_ HB GE237 GE241)); (case side2 => exact HC262.out); rintro e w96 ⟨v264, rfl, ho0, hb⟩; refine ⟨_, rfl, ?_⟩; have n0_ := Aside0.mk (Kd.R_lower ho0 (below_size (bl2_ HB GE237 GE241))); have n1_ := Aside0.mk (blk_below (g := gb237) (o := .cells #[.int .i64 0, .int .i64 0, .int .i64 0, .slice none 0 0, .int .i64 0, .int .i64 0, .int .i64 0] 24 (0, 0)) (by (with_reducible repeat (first | refine blk_drewN ?_ _ | refine blk_drew ?_ | refine blk_alloc ?_ _)); refine blk_far ?_ NB237_241.out _; (with_reducible repeat (first | refine blk_drewN ?_ _ | refine blk_drew ?_ | refine blk_alloc ?_ _)); refine blk_far ?_ NB237_241.out _; (with_reducible repeat (first | refine blk_drewN ?_ _ | refine blk_drew ?_ | refine blk_alloc ?_ _)); exact BK237.out) hb); have n2_ := Aside0.mk (blk_below (g := gb241) (o := .cells #[.int .i64 (wrap64 (rd l0 0)), .int .i64 t240, .int .i64 t243, .slice none 0 0, .int .i64 t261, .int .i64 0, .int .i64 0] 24 (0, 0)) (by (with_reducible repeat (first | refine blk_drewN ?_ _ | refine blk_drew ?_ | refine blk_alloc ?_ _)); refine blk_put (cs := #[.int .i64 (wrap64 (rd l0 0)), .int .i64 t240, .int .i64 t243, .slice none 0 0, .int .i64 0, .int .i64 0, .int .i64 0]) ?_ 4 _ rfl; (with_reducible repeat (first | refine blk_drewN ?_ _ | refine blk_drew ?_ | refine blk_alloc ?_ _)); refine blk_put (cs := #[.int .i64 (wrap64 (rd l0 0)), .int .i64 t240, .int .i64 0, .slice none 0 0, .int .i64 0, .int .i64 0, .int .i64 0]) ?_ 2 _ rfl; (with_reducible repeat (first | refine blk_drewN ?_ _ | refine blk_drew ?_ | refine blk_alloc ?_ _)); exact BK241.out) hb); have n3_ := Aside0.mk (below_step (bl2_ HB GE237 GE241) hb); clear BK237; clear BK241; clear HB; have HO265 := n0_; have BK237 := n1_; have BK241 := n2_; have HB := n3_; clear n0_ n1_ n2_ n3_; (try clear hb); (try clear hb2); (try clear hk); (try clear hi); (try clear ho0); obtain ⟨Ao97, co97, eo97⟩ := Kd.R_slice HO265.out; subst eo97; refine cz7_ BK241.out ?_; intro hcz98_0 hcz98_1 hcz98_2 hcz98_3 hcz98_4 hcz98_5 hcz98_6 hfz98_0 hfz98_1 hfz98_2 hfz98_3 hfz98_4 hfz98_5 hfz98_6))
                  go_meet
                  case rel => exact ⟨_, (0), (0), (0), (0), (0), (0), (t243), (t263), (t261), (0), (0), (.slice Ao97 t263.length co97), H', ⟨by have := HJ25.out; first | omega | exact Nat.le_refl _⟩, ⟨by (with_reducible repeat (first | apply Kd.R_alloc | apply Kd.R_drewN | apply Kd.R_drew)); exact Kd.R_mono (Kd.R_far (p := ⟨gb241, 3, none⟩) (Kd.R_types HO265.out BK241.out (by decide)) (fun _ hk => hk.2) (.slice Ao97 t263.length co97)) (fun _ hk => trivial)⟩, ⟨by (with_reducible repeat (first | refine blk_drewN ?_ _ | refine blk_drew ?_ | refine blk_alloc ?_ _)); refine blk_far ?_ NB237_241.out _; (with_reducible repeat (first | refine blk_drewN ?_ _ | refine blk_drew ?_ | refine blk_alloc ?_ _)); exact BK237.out⟩, ⟨by (with_reducible repeat (first | refine blk_drewN ?_ _ | refine blk_drew ?_ | refine blk_alloc ?_ _)); refine blk_put (cs := #[.int .i64 (wrap64 (rd l0 0)), .int .i64 t240, .int .i64 t243, .slice none 0 0, .int .i64 t261, .int .i64 0, .int .i64 0]) ?_ 3 _ rfl; (with_reducible repeat (first | refine blk_drewN ?_ _ | refine blk_drew ?_ | refine blk_alloc ?_ _)); exact BK241.out⟩, ⟨bl2_ HB GE237 GE241⟩⟩
                 ·rw [if_neg c90] at H
                  exact absurd H (by simp)
                ·rw [if_neg c88] at H
                 exact absurd H (by simp)
              ·rw [if_neg c84] at H
               have c84b0 : ((wrap64 (rd l0 0)) == 23) = false := beq_eq_false_iff_ne.mpr c84
               have c84b1 : ((wrap64 (rd l0 0)) != 23) = true := bne_iff_ne.mpr c84
               have H' := Aside0.mk H
               clear H
               go_wp2
               go_meet
               case rel => exact ⟨_, (0), (0), (0), (0), (0), (0), (0), (([] : List Int)), (0), (0), (0), (.slice none 0 0), H', ⟨by have := HJ25.out; first | omega | exact Nat.le_refl _⟩, ⟨by first | exact Kd.R_nil _ _ _ _ _ | exact Kd.N_nil _ _ _ _ _ | exact Kd.V_nil _ _ _ _ _ | exact Kd.Q_nil _ _ _ _ _ | exact Kd.S_nil _ _ _ _ _⟩, ⟨bk_ BK237⟩, ⟨bk_ BK241⟩, ⟨bl2_ HB GE237 GE241⟩⟩
     case rest =>
      clear HC10
      try clear c2
      try clear c2b0
      try clear c2b1
      try clear p2
      try clear q2
      try clear hx2
      try clear qi2
      try clear c3
      try clear c4
      try clear c5
      try clear c5b0
      try clear c5b1
      try clear c6
      try clear c6b0
      try clear c6b1
      try clear p6
      try clear c7
      try clear c8
      try clear c8b0
      try clear c8b1
      try clear c9
      try clear p23
      try clear q23
      try clear hx23
      try clear qi23
      try clear c24
      try clear c27
      try clear c27b0
      try clear c27b1
      try clear c28
      try clear c28b0
      try clear c28b1
      try clear c29
      try clear c29b0
      try clear c29b1
      try clear c30
      try clear c31
      try clear c33
      try clear c33b0
      try clear c33b1
      try clear c37
      try clear c39
      try clear c39b0
      try clear c39b1
      try clear c43
      try clear c45
      try clear c45b0
      try clear c45b1
      try clear c46
      try clear c46b0
      try clear c46b1
      try clear c47
      try clear c50
      try clear c50b0
      try clear c51
      try clear c54
      try clear c54b0
      try clear c54b1
      try clear c56
      try clear c62
      try clear c62b0
      try clear c62b1
      try clear c63
      try clear c63b0
      try clear c63b1
      try clear c64
      try clear p64
      try clear c65
      try clear c67
      try clear c67b0
      try clear c67b1
      try clear c69
      try clear c75
      try clear c75b0
      try clear c75b1
      try clear c76
      try clear c76b0
      try clear c76b1
      try clear c77
      try clear c79
      try clear c79b0
      try clear c79b1
      try clear c81
      try clear c84
      try clear c84b0
      try clear c84b1
      try clear c85
      try clear c85b0
      try clear c85b1
      try clear c86
      try clear c88
      try clear c88b0
      try clear c88b1
      try clear c90
      try clear c90b0
      try clear c90b1
      try clear c92
      try clear hcz25_0 hcz25_1 hcz25_2 hcz25_3 hcz25_4 hcz25_5 hcz25_6
      try clear hcz32_0 hcz32_1 hcz32_2 hcz32_3 hcz32_4 hcz32_5 hcz32_6
      try clear hcz38_0 hcz38_1 hcz38_2 hcz38_3 hcz38_4 hcz38_5 hcz38_6
      try clear hcz44_0 hcz44_1 hcz44_2 hcz44_3 hcz44_4 hcz44_5 hcz44_6
      try clear hcz48_0 hcz48_1 hcz48_2 hcz48_3 hcz48_4 hcz48_5 hcz48_6
      try clear hcz49_0 hcz49_1 hcz49_2 hcz49_3 hcz49_4 hcz49_5 hcz49_6
      try clear hcz4_0 hcz4_1 hcz4_2 hcz4_3 hcz4_4 hcz4_5 hcz4_6
      try clear hcz52_0 hcz52_1 hcz52_2 hcz52_3 hcz52_4 hcz52_5 hcz52_6
      try clear hcz53_0 hcz53_1 hcz53_2 hcz53_3 hcz53_4 hcz53_5 hcz53_6
      try clear hcz57_0 hcz57_1 hcz57_2 hcz57_3 hcz57_4 hcz57_5 hcz57_6
      try clear hcz61_0 hcz61_1 hcz61_2 hcz61_3 hcz61_4 hcz61_5 hcz61_6
      try clear hcz65_0 hcz65_1 hcz65_2 hcz65_3 hcz65_4 hcz65_5 hcz65_6
      try clear hcz66_0 hcz66_1 hcz66_2 hcz66_3 hcz66_4 hcz66_5 hcz66_6
      try clear hcz70_0 hcz70_1 hcz70_2 hcz70_3 hcz70_4 hcz70_5 hcz70_6
      try clear hcz74_0 hcz74_1 hcz74_2 hcz74_3 hcz74_4 hcz74_5 hcz74_6
      try clear hcz78_0 hcz78_1 hcz78_2 hcz78_3 hcz78_4 hcz78_5 hcz78_6
      try clear hcz82_0 hcz82_1 hcz82_2 hcz82_3 hcz82_4 hcz82_5 hcz82_6
      try clear hcz87_0 hcz87_1 hcz87_2 hcz87_3 hcz87_4 hcz87_5 hcz87_6
      try clear hcz93_0 hcz93_1 hcz93_2 hcz93_3 hcz93_4 hcz93_5 hcz93_6
      try clear hcz98_0 hcz98_1 hcz98_2 hcz98_3 hcz98_4 hcz98_5 hcz98_6
      try clear hfz25_0 hfz25_1 hfz25_2 hfz25_3 hfz25_4 hfz25_5 hfz25_6
      try clear hfz32_0 hfz32_1 hfz32_2 hfz32_3 hfz32_4 hfz32_5 hfz32_6
      try clear hfz38_0 hfz38_1 hfz38_2 hfz38_3 hfz38_4 hfz38_5 hfz38_6
      try clear hfz44_0 hfz44_1 hfz44_2 hfz44_3 hfz44_4 hfz44_5 hfz44_6
      try clear hfz48_0 hfz48_1 hfz48_2 hfz48_3 hfz48_4 hfz48_5 hfz48_6
      try clear hfz49_0 hfz49_1 hfz49_2 hfz49_3 hfz49_4 hfz49_5 hfz49_6
      try clear hfz4_0 hfz4_1 hfz4_2 hfz4_3 hfz4_4 hfz4_5 hfz4_6
      try clear hfz52_0 hfz52_1 hfz52_2 hfz52_3 hfz52_4 hfz52_5 hfz52_6
      try clear hfz53_0 hfz53_1 hfz53_2 hfz53_3 hfz53_4 hfz53_5 hfz53_6
      try clear hfz57_0 hfz57_1 hfz57_2 hfz57_3 hfz57_4 hfz57_5 hfz57_6
      try clear hfz61_0 hfz61_1 hfz61_2 hfz61_3 hfz61_4 hfz61_5 hfz61_6
      try clear hfz65_0 hfz65_1 hfz65_2 hfz65_3 hfz65_4 hfz65_5 hfz65_6
      try clear hfz66_0 hfz66_1 hfz66_2 hfz66_3 hfz66_4 hfz66_5 hfz66_6
      try clear hfz70_0 hfz70_1 hfz70_2 hfz70_3 hfz70_4 hfz70_5 hfz70_6
      try clear hfz74_0 hfz74_1 hfz74_2 hfz74_3 hfz74_4 hfz74_5 hfz74_6
      try clear hfz78_0 hfz78_1 hfz78_2 hfz78_3 hfz78_4 hfz78_5 hfz78_6
      try clear hfz82_0 hfz82_1 hfz82_2 hfz82_3 hfz82_4 hfz82_5 hfz82_6
      try clear hfz87_0 hfz87_1 hfz87_2 hfz87_3 hfz87_4 hfz87_5 hfz87_6
      try clear hfz93_0 hfz93_1 hfz93_2 hfz93_3 hfz93_4 hfz93_5 hfz93_6
      try clear hfz98_0 hfz98_1 hfz98_2 hfz98_3 hfz98_4 hfz98_5 hfz98_6
      try clear hx238_0
      try clear p2
      try clear p23
      try clear p238
      try clear p6
      try clear q2
      try clear q23
      try clear q238
      obtain ⟨kq, x238000_9, x238001_9, x238002_9, x238004_9, x238005_9, x238006_9, x242002_9, x242003_9, x242004_9, x242005_9, x242006_9, u242003, HA, HJ9, HO_242003, BK237, BK241, HB⟩ := hcut
      cases kq with
      | zero => exact absurd HA.out (by simp [basculeref03_Parse.j1])
      | succ kj9 =>
       have H := HA.out
       clear HA
       simp only [basculeref03_Parse.j1] at H
       replace H := Option.bind_eq_some_iff.mp H
       obtain ⟨t266, A990, H⟩ := H
       replace H : (if t266 = true then ((basculeref03_Bytes.f kj9 (wrap64 (rd l0 0)) t240 x242002_9 x242003_9 x242004_9 x242005_9 x242006_9).bind fun t267 => (if (strOfNums t267).toList = (strOfNums l0).toList then (some ((wrap64 (rd l0 0)), t240, x242002_9, x242003_9, x242004_9, x242005_9, x242006_9, true)) else (some (0, 0, 0, ([] : List Int), 0, 0, 0, false)))) else (some (0, 0, 0, ([] : List Int), 0, 0, 0, false))) = some (r1, r2, r3, r4, r5, r6, r7, r8) := H
       have A99 := Aside0.mk A990
       clear A990
       by_cases c100 : t266 = true
       ·subst c100
        have H1 : ((basculeref03_Bytes.f kj9 (wrap64 (rd l0 0)) t240 x242002_9 x242003_9 x242004_9 x242005_9 x242006_9).bind fun t267 => (if (strOfNums t267).toList = (strOfNums l0).toList then (some ((wrap64 (rd l0 0)), t240, x242002_9, x242003_9, x242004_9, x242005_9, x242006_9, true)) else (some (0, 0, 0, ([] : List Int), 0, 0, 0, false)))) = some (r1, r2, r3, r4, r5, r6, r7, r8) := by rw [if_pos rfl] at H; exact H
        clear H
        have H := H1
        clear H1
        replace H := Option.bind_eq_some_iff.mp H
        obtain ⟨t267, A1010, H⟩ := H
        replace H : (if (strOfNums t267).toList = (strOfNums l0).toList then (some ((wrap64 (rd l0 0)), t240, x242002_9, x242003_9, x242004_9, x242005_9, x242006_9, true)) else (some (0, 0, 0, ([] : List Int), 0, 0, 0, false))) = some (r1, r2, r3, r4, r5, r6, r7, r8) := H
        have A101 := Aside0.mk A1010
        clear A1010
        by_cases c102 : (strOfNums t267).toList = (strOfNums l0).toList
        ·rw [if_pos c102] at H
         have c102b0 : ((strOfNums t267).toList == (strOfNums l0).toList) = true := beq_iff_eq.mpr c102
         have c102b1 : ((strOfNums t267).toList != (strOfNums l0).toList) = false := bne_eq_false_iff_eq.mpr c102
         clear c102
         simp only [Option.some.injEq, Prod.mk.injEq] at H
         obtain ⟨rfl, rfl, rfl, rfl, rfl, rfl, rfl, rfl⟩ := H
         obtain ⟨Ao103, co103, eo103⟩ := Kd.R_slice HO_242003.out
         subst eo103
         try go_wp2
         have n0_ := Aside0.mk (Kd.R_drew HO_242003.out)
         have n1_ := Aside0.mk (blk_drew BK237.out)
         have n2_ := Aside0.mk (blk_drew BK241.out)
         have n3_ := Aside0.mk (below_drew1 HB.out)
         clear HO_242003
         clear BK237
         clear BK241
         clear HB
         have HO_242003 := n0_
         have BK237 := n1_
         have BK241 := n2_
         have HB := n3_
         clear n0_ n1_ n2_ n3_
         refine start_ (n := 11) (S := fun w' => (w'.cell? ⟨gb241, 0, none⟩ = some (.int .i64 (wrap64 (rd l0 0))) ∧ w'.cell? ⟨gb241, 1, none⟩ = some (.int .i64 t240) ∧ w'.cell? ⟨gb241, 2, none⟩ = some (.int .i64 x242002_9) ∧ w'.cell? ⟨gb241, 3, none⟩ = some (.slice Ao103 x242003_9.length co103) ∧ w'.cell? ⟨gb241, 4, none⟩ = some (.int .i64 x242004_9) ∧ w'.cell? ⟨gb241, 5, none⟩ = some (.int .i64 x242005_9) ∧ w'.cell? ⟨gb241, 6, none⟩ = some (.int .i64 x242006_9)) ∧ Sem.run Try.prog (convert 58 9 (.slice (some ad238) l0.length c0)) w' = .ok (.string (strOfNums l0)) w') (ds := []) #[false, false, false, false, false, false, false, false, false, false, false] (by kernel_rfl) rfl rfl ⟨⟨(blk_cell BK241.out 0).trans rfl, (blk_cell BK241.out 1).trans rfl, (blk_cell BK241.out 2).trans rfl, (blk_cell BK241.out 3).trans rfl, (blk_cell BK241.out 4).trans rfl, (blk_cell BK241.out 5).trans rfl, (blk_cell BK241.out 6).trans rfl⟩, (string_of_reads (P := Try.prog) (c := c0) Try.underlying58 Try.underlying5 Try.underlying9 (Kd.reads_of_C (Kd.C_below HR0.out (by repeat (first | exact HB.out | apply below_alloc | apply pw_below_drewN | apply below_drew1 | apply below_drew)))))⟩ (fun hHeld => ?_); refine with_tabW basculeref03_Parse.tab36 basculeref03_Parse.bits36 (fun HT_ HW_ => ?_)
         generalize wc.drew = w104 at HO_242003 BK237 BK241 HB hHeld ⊢
         refine take_ (i := 0) (N := some 102) (v := ?_) (a' := ?_) #[true, false, false, false, false, false, false, false, false, false, false] rfl rfl (take_ofW HT_.out HW_.out (by kernel_rfl)) (fun _ _ _ h => h) (Or.inl ⟨by rfl, ?_⟩) hHeld ?_ ?_
         rotate_left
         ·rintro w' ⟨⟨s0, s1, s2, s3, s4, s5, s6⟩, sc_⟩
          go_simp
          with_reducible rfl
         rotate_left
         ·simp only [Act.put, List.setIfInBounds_toArray, List.set_cons_zero, List.set_cons_succ, i64_w, i32_w]
          rfl
         refine one_ (i := 1) (N := some 103) #[true, true, false, false, false, false, false, false, false, false, false] rfl rfl (one_of HT_.out (by kernel_rfl)) (by decide) (fun K hK => ?_)
         refine goes_ Try.func20 (by kernel_rfl) rfl #[.agg #[.int .i64 (wrap64 (rd l0 0)), .int .i64 t240, .int .i64 x242002_9, .slice Ao103 x242003_9.length co103, .int .i64 x242004_9, .int .i64 x242005_9, .int .i64 x242006_9]] (by rfl) rfl rfl ar_ ?_
         with_reducible refine (ExtU.basculeref03_May.calls (wrap64 (rd l0 0)) t240 x242002_9 _ _ x242003_9 x242004_9 x242005_9 x242006_9 true _ ?side1 ?side2 A99.out).mono ?_
         (case side1 => exact sc_ (Kd.R_reads' HO_242003.out).2.2)
         (case side2 => exact (Kd.R_reads' HO_242003.out).2.1)
         rintro e w105 ⟨rfl, hb⟩
         refine ⟨_, rfl, ?_⟩
         have n0_ := Aside0.mk (Kd.R_below (kr_ HO_242003) hb)
         have n1_ := Aside0.mk (blk_below (g := gb237) (bk_ BK237) hb)
         have n2_ := Aside0.mk (blk_below (g := gb241) (bk_ BK241) hb)
         have n3_ := Aside0.mk (below_step (bl2_ HB GE237 GE241) hb)
         clear HO_242003
         clear BK237
         clear BK241
         clear HB
         have HO_242003 := n0_
         have BK237 := n1_
         have BK241 := n2_
         have HB := n3_
         clear n0_ n1_ n2_ n3_
         (try clear hb)
         (try clear hb2)
         (try clear hk)
         (try clear hi)
         refine hK.out _ _ ⟨⟨(blk_cell BK241.out 0).trans rfl, (blk_cell BK241.out 1).trans rfl, (blk_cell BK241.out 2).trans rfl, (blk_cell BK241.out 3).trans rfl, (blk_cell BK241.out 4).trans rfl, (blk_cell BK241.out 5).trans rfl, (blk_cell BK241.out 6).trans rfl⟩, (string_of_reads (P := Try.prog) (c := c0) Try.underlying58 Try.underlying5 Try.underlying9 (Kd.reads_of_C (Kd.C_below HR0.out (by repeat (first | exact HB.out | apply below_alloc | apply pw_below_drewN | apply below_drew1 | apply below_drew)))))⟩ (fun hHeld => ?_)
         clear hK K
         refine norm_ (a' := ?_) ?_ ?_
         rotate_left
         ·show Act.put _ (some 103) _ = _
          simp only [Act.put, List.setIfInBounds_toArray, List.set_cons_zero, List.set_cons_succ, i64_w, i32_w]
          rfl
         refine pure_ (i := 2) (N := some 104) (v := ?_) (a' := ?_) #[true, true, true, false, false, false, false, false, false, false, false] rfl rfl (any_of HT_.out (by kernel_rfl)) (fun _ _ _ h => h) (Or.inl ⟨by rfl, ?_⟩) ?_ ?_
         rotate_left
         ·intro w'
          go_simp
          with_reducible rfl
         rotate_left
         ·simp only [Act.put, List.setIfInBounds_toArray, List.set_cons_zero, List.set_cons_succ, i64_w, i32_w]
          rfl
         refine pure_ (i := 3) (N := some 105) (v := ?_) (a' := ?_) #[true, true, true, true, false, false, false, false, false, false, false] rfl rfl (any_of HT_.out (by kernel_rfl)) (fun _ _ _ h => h) (Or.inl ⟨by rfl, ?_⟩) ?_ ?_
         rotate_left
         ·intro w'
          go_simp
          with_reducible rfl
         rotate_left
         ·simp only [Act.put, List.setIfInBounds_toArray, List.set_cons_zero, List.set_cons_succ, i64_w, i32_w]
          rfl
         refine pure_ (i := 7) (N := some 109) (v := ?_) (a' := ?_) #[true, true, true, true, false, false, false, true, false, false, false] rfl rfl (any_of HT_.out (by kernel_rfl)) (fun _ _ _ h => h) (Or.inl ⟨by rfl, ?_⟩) ?_ ?_
         rotate_left
         ·intro w'
          go_simp
          with_reducible rfl
         rotate_left
         ·simp only [Act.put, List.setIfInBounds_toArray, List.set_cons_zero, List.set_cons_succ, i64_w, i32_w]
          rfl
         refine take_ (i := 8) (N := some 110) (v := ?_) (a' := ?_) #[true, true, true, true, false, false, false, true, true, false, false] rfl rfl (take_ofW HT_.out HW_.out (by kernel_rfl)) (fun _ _ _ h => h) (Or.inl ⟨by rfl, ?_⟩) hHeld ?_ ?_
         rotate_left
         ·rintro w' ⟨_, sc_⟩
          go_simp
          with_reducible rfl
         rotate_left
         ·simp only [Act.put, List.setIfInBounds_toArray, List.set_cons_zero, List.set_cons_succ, i64_w, i32_w]
          rfl
         refine take_ (i := 4) (N := some 106) (v := ?_) (a' := ?_) #[true, true, true, true, true, false, false, true, true, false, false] rfl rfl (take_ofW HT_.out HW_.out (by kernel_rfl)) (fun _ _ _ h => h) (Or.inl ⟨by rfl, ?_⟩) hHeld ?_ ?_
         rotate_left
         ·rintro w' ⟨⟨s0, s1, s2, s3, s4, s5, s6⟩, sc_⟩
          go_simp
          with_reducible rfl
         rotate_left
         ·simp only [Act.put, List.setIfInBounds_toArray, List.set_cons_zero, List.set_cons_succ, i64_w, i32_w]
          rfl
         refine one_ (i := 5) (N := some 107) #[true, true, true, true, true, true, false, true, true, false, false] rfl rfl (one_of HT_.out (by kernel_rfl)) (by decide) (fun K hK => ?_)
         refine goes_ Try.func33 (by kernel_rfl) rfl #[.agg #[.int .i64 (wrap64 (rd l0 0)), .int .i64 t240, .int .i64 x242002_9, .slice Ao103 x242003_9.length co103, .int .i64 x242004_9, .int .i64 x242005_9, .int .i64 x242006_9]] (by rfl) rfl rfl ar_ ?_
         with_reducible refine (basculeref03_Bytes.calls kj9 (wrap64 (rd l0 0)) t240 x242002_9 _ _ x242003_9 x242004_9 x242005_9 x242006_9 t267 _ ?side1 ?side2 A101.out).mono ?_
         (case side1 => exact sc_ (Kd.R_reads' HO_242003.out).2.2)
         (case side2 => exact (Kd.R_reads' HO_242003.out).2.1)
         rintro e w106 ⟨v268, rfl, ho0, hb⟩
         refine ⟨_, rfl, ?_⟩
         have n0_ := Aside0.mk (Kd.R_below (kr_ HO_242003) hb)
         have n1_ := Aside0.mk (Kd.R_lower ho0 (below_size (bl2_ HB GE237 GE241)))
         have n2_ := Aside0.mk (blk_below (g := gb237) (bk_ BK237) hb)
         have n3_ := Aside0.mk (blk_below (g := gb241) (bk_ BK241) hb)
         have n4_ := Aside0.mk (below_step (bl2_ HB GE237 GE241) hb)
         clear HO_242003
         clear BK237
         clear BK241
         clear HB
         have HO_242003 := n0_
         have HO269 := n1_
         have BK237 := n2_
         have BK241 := n3_
         have HB := n4_
         clear n0_ n1_ n2_ n3_ n4_
         (try clear hb)
         (try clear hb2)
         (try clear hk)
         (try clear hi)
         (try clear ho0)
         skip
         refine hK.out _ _ ⟨⟨(blk_cell BK241.out 0).trans rfl, (blk_cell BK241.out 1).trans rfl, (blk_cell BK241.out 2).trans rfl, (blk_cell BK241.out 3).trans rfl, (blk_cell BK241.out 4).trans rfl, (blk_cell BK241.out 5).trans rfl, (blk_cell BK241.out 6).trans rfl⟩, (string_of_reads (P := Try.prog) (c := c0) Try.underlying58 Try.underlying5 Try.underlying9 (Kd.reads_of_C (Kd.C_below HR0.out (by repeat (first | exact HB.out | apply below_alloc | apply pw_below_drewN | apply below_drew1 | apply below_drew)))))⟩ (fun hHeld => ?_)
         clear hK K
         refine norm_ (a' := ?_) ?_ ?_
         rotate_left
         ·show Act.put _ (some 107) _ = _
          simp only [Act.put, List.setIfInBounds_toArray, List.set_cons_zero, List.set_cons_succ, i64_w, i32_w]
          rfl
         refine one_ (i := 6) (N := some 108) #[true, true, true, true, true, true, true, true, true, false, false] rfl rfl (one_of HT_.out (by kernel_rfl)) (by decide) (fun K hK => ?_)
         have hcv107 := own_string (P := Try.prog) Try.underlying58 Try.underlying5 Try.underlying9 (Kd.own_of_R HO269.out)
         refine value_ (w1 := ?_) (v := ?_) (by rfl) rfl ?_ ?_
         rotate_left 2
         ·go_simp
          constructor
          ·rfl
          ·rfl
         clear hcv107
         refine hK.out _ _ ⟨⟨(blk_cell BK241.out 0).trans rfl, (blk_cell BK241.out 1).trans rfl, (blk_cell BK241.out 2).trans rfl, (blk_cell BK241.out 3).trans rfl, (blk_cell BK241.out 4).trans rfl, (blk_cell BK241.out 5).trans rfl, (blk_cell BK241.out 6).trans rfl⟩, (string_of_reads (P := Try.prog) (c := c0) Try.underlying58 Try.underlying5 Try.underlying9 (Kd.reads_of_C (Kd.C_below HR0.out (by repeat (first | exact HB.out | apply below_alloc | apply pw_below_drewN | apply below_drew1 | apply below_drew)))))⟩ (fun hHeld => ?_)
         clear hK K
         refine norm_ (a' := ?_) ?_ ?_
         rotate_left
         ·show Act.put _ (some 108) _ = _
          simp only [Act.put, List.setIfInBounds_toArray, List.set_cons_zero, List.set_cons_succ, i64_w, i32_w]
          rfl
         refine pure_ (i := 9) (N := some 111) (v := ?_) (a' := ?_) #[true, true, true, true, true, true, true, true, true, true, false] rfl rfl (any_of HT_.out (by kernel_rfl)) (fun _ _ _ h => h) (Or.inl ⟨by rfl, ?_⟩) ?_ ?_
         rotate_left
         ·intro w'
          go_simp
          with_reducible rfl
         rotate_left
         ·simp only [Act.put, List.setIfInBounds_toArray, List.set_cons_zero, List.set_cons_succ, i64_w, i32_w]
          rfl
         refine pure_ (i := 10) (N := some 112) (v := ?_) (a' := ?_) #[true, true, true, true, true, true, true, true, true, true, true] rfl rfl (any_of HT_.out (by kernel_rfl)) (fun _ _ _ h => h) (Or.inl ⟨by rfl, ?_⟩) ?_ ?_
         rotate_left
         ·intro w'
          go_simp
          with_reducible rfl
         rotate_left
         ·simp only [Act.put, List.setIfInBounds_toArray, List.set_cons_zero, List.set_cons_succ, i64_w, i32_w]
          rfl
         refine done_ (done_of HT_.out (by kernel_rfl)) ?_
         have hnb110 := NB241_237.out
         have hnc110 := NB237_241.out
         have hcz111_0 : World.cell? _ ⟨gb241, 0, none⟩ = some (.int .i64 (wrap64 (rd l0 0))) := (blk_cell BK241.out 0).trans rfl
         have hcz111_1 : World.cell? _ ⟨gb241, 1, none⟩ = some (.int .i64 t240) := (blk_cell BK241.out 1).trans rfl
         have hcz111_2 : World.cell? _ ⟨gb241, 2, none⟩ = some (.int .i64 x242002_9) := (blk_cell BK241.out 2).trans rfl
         have hcz111_3 : World.cell? _ ⟨gb241, 3, none⟩ = some (.slice Ao103 x242003_9.length co103) := (blk_cell BK241.out 3).trans rfl
         have hcz111_4 : World.cell? _ ⟨gb241, 4, none⟩ = some (.int .i64 x242004_9) := (blk_cell BK241.out 4).trans rfl
         have hcz111_5 : World.cell? _ ⟨gb241, 5, none⟩ = some (.int .i64 x242005_9) := (blk_cell BK241.out 5).trans rfl
         have hcz111_6 : World.cell? _ ⟨gb241, 6, none⟩ = some (.int .i64 x242006_9) := (blk_cell BK241.out 6).trans rfl
         have hfz111_0 := blk_frozen BK241.out 0
         have hfz111_1 := blk_frozen BK241.out 1
         have hfz111_2 := blk_frozen BK241.out 2
         have hfz111_3 := blk_frozen BK241.out 3
         have hfz111_4 := blk_frozen BK241.out 4
         have hfz111_5 := blk_frozen BK241.out 5
         have hfz111_6 := blk_frozen BK241.out 6
         have hcz112_0 : World.cell? _ ⟨gb237, 0, none⟩ = some (.int .i64 x238000_9) := (blk_cell BK237.out 0).trans rfl
         have hcz112_1 : World.cell? _ ⟨gb237, 1, none⟩ = some (.int .i64 x238001_9) := (blk_cell BK237.out 1).trans rfl
         have hcz112_2 : World.cell? _ ⟨gb237, 2, none⟩ = some (.int .i64 x238002_9) := (blk_cell BK237.out 2).trans rfl
         have hcz112_3 : World.cell? _ ⟨gb237, 3, none⟩ = some (.slice none 0 0) := (blk_cell BK237.out 3).trans rfl
         have hcz112_4 : World.cell? _ ⟨gb237, 4, none⟩ = some (.int .i64 x238004_9) := (blk_cell BK237.out 4).trans rfl
         have hcz112_5 : World.cell? _ ⟨gb237, 5, none⟩ = some (.int .i64 x238005_9) := (blk_cell BK237.out 5).trans rfl
         have hcz112_6 : World.cell? _ ⟨gb237, 6, none⟩ = some (.int .i64 x238006_9) := (blk_cell BK237.out 6).trans rfl
         have hfz112_0 := blk_frozen BK237.out 0
         have hfz112_1 := blk_frozen BK237.out 1
         have hfz112_2 := blk_frozen BK237.out 2
         have hfz112_3 := blk_frozen BK237.out 3
         have hfz112_4 := blk_frozen BK237.out 4
         have hfz112_5 := blk_frozen BK237.out 5
         have hfz112_6 := blk_frozen BK237.out 6
         try go_wp2
         refine bodyPost_ret (results_ct rfl _ _ gb237 24 #[.int .i64 (wrap64 (rd l0 0)), .int .i64 t240, .int .i64 x242002_9, .slice Ao103 x242003_9.length co103, .int .i64 x242004_9, .int .i64 x242005_9, .int .i64 x242006_9] (0, 0) _ rfl (by (with_reducible repeat (first | refine blk_drewN ?_ _ | refine blk_drew ?_ | refine blk_alloc ?_ _)); refine blk_put (cs := #[.int .i64 (wrap64 (rd l0 0)), .int .i64 t240, .int .i64 x242002_9, .slice Ao103 x242003_9.length co103, .int .i64 x242004_9, .int .i64 x242005_9, .int .i64 x238006_9]) ?_ 6 _ rfl; (with_reducible repeat (first | refine blk_drewN ?_ _ | refine blk_drew ?_ | refine blk_alloc ?_ _)); refine blk_put (cs := #[.int .i64 (wrap64 (rd l0 0)), .int .i64 t240, .int .i64 x242002_9, .slice Ao103 x242003_9.length co103, .int .i64 x242004_9, .int .i64 x238005_9, .int .i64 x238006_9]) ?_ 5 _ rfl; (with_reducible repeat (first | refine blk_drewN ?_ _ | refine blk_drew ?_ | refine blk_alloc ?_ _)); refine blk_put (cs := #[.int .i64 (wrap64 (rd l0 0)), .int .i64 t240, .int .i64 x242002_9, .slice Ao103 x242003_9.length co103, .int .i64 x238004_9, .int .i64 x238005_9, .int .i64 x238006_9]) ?_ 4 _ rfl; (with_reducible repeat (first | refine blk_drewN ?_ _ | refine blk_drew ?_ | refine blk_alloc ?_ _)); refine blk_put (cs := #[.int .i64 (wrap64 (rd l0 0)), .int .i64 t240, .int .i64 x242002_9, .slice none 0 0, .int .i64 x238004_9, .int .i64 x238005_9, .int .i64 x238006_9]) ?_ 3 _ rfl; (with_reducible repeat (first | refine blk_drewN ?_ _ | refine blk_drew ?_ | refine blk_alloc ?_ _)); refine blk_put (cs := #[.int .i64 (wrap64 (rd l0 0)), .int .i64 t240, .int .i64 x238002_9, .slice none 0 0, .int .i64 x238004_9, .int .i64 x238005_9, .int .i64 x238006_9]) ?_ 2 _ rfl; (with_reducible repeat (first | refine blk_drewN ?_ _ | refine blk_drew ?_ | refine blk_alloc ?_ _)); refine blk_put (cs := #[.int .i64 (wrap64 (rd l0 0)), .int .i64 x238001_9, .int .i64 x238002_9, .slice none 0 0, .int .i64 x238004_9, .int .i64 x238005_9, .int .i64 x238006_9]) ?_ 1 _ rfl; (with_reducible repeat (first | refine blk_drewN ?_ _ | refine blk_drew ?_ | refine blk_alloc ?_ _)); refine blk_put (cs := #[.int .i64 x238000_9, .int .i64 x238001_9, .int .i64 x238002_9, .slice none 0 0, .int .i64 x238004_9, .int .i64 x238005_9, .int .i64 x238006_9]) ?_ 0 _ rfl; (with_reducible repeat (first | refine blk_drewN ?_ _ | refine blk_drew ?_ | refine blk_alloc ?_ _)); exact BK237.out) Try.underlying24 rfl (by kernel_rfl)) rfl ?_
         exact ⟨_, er_, by (with_reducible repeat (first | apply Kd.R_alloc | apply Kd.R_drewN | apply Kd.R_drew)); exact Kd.R_mono (Kd.R_far (p := ⟨gb237, 6, none⟩) (Kd.R_far (p := ⟨gb237, 5, none⟩) (Kd.R_far (p := ⟨gb237, 4, none⟩) (Kd.R_far (p := ⟨gb237, 3, none⟩) (Kd.R_far (p := ⟨gb237, 2, none⟩) (Kd.R_far (p := ⟨gb237, 1, none⟩) (Kd.R_far (p := ⟨gb237, 0, none⟩) (Kd.R_types HO_242003.out BK237.out (by decide)) (fun _ hk => hk.2) (.int .i64 (wrap64 (rd l0 0)))) (fun _ hk => hk.2) (.int .i64 t240)) (fun _ hk => hk.2) (.int .i64 x242002_9)) (fun _ hk => hk.2) (.slice Ao103 x242003_9.length co103)) (fun _ hk => hk.2) (.int .i64 x242004_9)) (fun _ hk => hk.2) (.int .i64 x242005_9)) (fun _ hk => hk.2) (.int .i64 x242006_9)) (fun _ hk => trivial), bl2_ HB GE237 GE241⟩
        ·rw [if_neg c102] at H
         have c102b0 : ((strOfNums t267).toList == (strOfNums l0).toList) = false := beq_eq_false_iff_ne.mpr c102
         have c102b1 : ((strOfNums t267).toList != (strOfNums l0).toList) = true := bne_iff_ne.mpr c102
         simp only [Option.some.injEq, Prod.mk.injEq] at H
         obtain ⟨rfl, rfl, rfl, rfl, rfl, rfl, rfl, rfl⟩ := H
         obtain ⟨Ao113, co113, eo113⟩ := Kd.R_slice HO_242003.out
         subst eo113
         try go_wp2
         have n0_ := Aside0.mk (Kd.R_drew HO_242003.out)
         have n1_ := Aside0.mk (blk_drew BK237.out)
         have n2_ := Aside0.mk (blk_drew BK241.out)
         have n3_ := Aside0.mk (below_drew1 HB.out)
         clear HO_242003
         clear BK237
         clear BK241
         clear HB
         have HO_242003 := n0_
         have BK237 := n1_
         have BK241 := n2_
         have HB := n3_
         clear n0_ n1_ n2_ n3_
         refine start_ (n := 11) (S := fun w' => (w'.cell? ⟨gb241, 0, none⟩ = some (.int .i64 (wrap64 (rd l0 0))) ∧ w'.cell? ⟨gb241, 1, none⟩ = some (.int .i64 t240) ∧ w'.cell? ⟨gb241, 2, none⟩ = some (.int .i64 x242002_9) ∧ w'.cell? ⟨gb241, 3, none⟩ = some (.slice Ao113 x242003_9.length co113) ∧ w'.cell? ⟨gb241, 4, none⟩ = some (.int .i64 x242004_9) ∧ w'.cell? ⟨gb241, 5, none⟩ = some (.int .i64 x242005_9) ∧ w'.cell? ⟨gb241, 6, none⟩ = some (.int .i64 x242006_9)) ∧ Sem.run Try.prog (convert 58 9 (.slice (some ad238) l0.length c0)) w' = .ok (.string (strOfNums l0)) w') (ds := []) #[false, false, false, false, false, false, false, false, false, false, false] (by kernel_rfl) rfl rfl ⟨⟨(blk_cell BK241.out 0).trans rfl, (blk_cell BK241.out 1).trans rfl, (blk_cell BK241.out 2).trans rfl, (blk_cell BK241.out 3).trans rfl, (blk_cell BK241.out 4).trans rfl, (blk_cell BK241.out 5).trans rfl, (blk_cell BK241.out 6).trans rfl⟩, (string_of_reads (P := Try.prog) (c := c0) Try.underlying58 Try.underlying5 Try.underlying9 (Kd.reads_of_C (Kd.C_below HR0.out (by repeat (first | exact HB.out | apply below_alloc | apply pw_below_drewN | apply below_drew1 | apply below_drew)))))⟩ (fun hHeld => ?_); refine with_tabW basculeref03_Parse.tab36 basculeref03_Parse.bits36 (fun HT_ HW_ => ?_)
         generalize wc.drew = w114 at HO_242003 BK237 BK241 HB hHeld ⊢
         refine take_ (i := 0) (N := some 102) (v := ?_) (a' := ?_) #[true, false, false, false, false, false, false, false, false, false, false] rfl rfl (take_ofW HT_.out HW_.out (by kernel_rfl)) (fun _ _ _ h => h) (Or.inl ⟨by rfl, ?_⟩) hHeld ?_ ?_
         rotate_left
         ·rintro w' ⟨⟨s0, s1, s2, s3, s4, s5, s6⟩, sc_⟩
          go_simp
          with_reducible rfl
         rotate_left
         ·simp only [Act.put, List.setIfInBounds_toArray, List.set_cons_zero, List.set_cons_succ, i64_w, i32_w]
          rfl
         refine one_ (i := 1) (N := some 103) #[true, true, false, false, false, false, false, false, false, false, false] rfl rfl (one_of HT_.out (by kernel_rfl)) (by decide) (fun K hK => ?_)
         refine goes_ Try.func20 (by kernel_rfl) rfl #[.agg #[.int .i64 (wrap64 (rd l0 0)), .int .i64 t240, .int .i64 x242002_9, .slice Ao113 x242003_9.length co113, .int .i64 x242004_9, .int .i64 x242005_9, .int .i64 x242006_9]] (by rfl) rfl rfl ar_ ?_
         with_reducible refine (ExtU.basculeref03_May.calls (wrap64 (rd l0 0)) t240 x242002_9 _ _ x242003_9 x242004_9 x242005_9 x242006_9 true _ ?side1 ?side2 A99.out).mono ?_
         (case side1 => exact sc_ (Kd.R_reads' HO_242003.out).2.2)
         (case side2 => exact (Kd.R_reads' HO_242003.out).2.1)
         rintro e w115 ⟨rfl, hb⟩
         refine ⟨_, rfl, ?_⟩
         have n0_ := Aside0.mk (Kd.R_below (kr_ HO_242003) hb)
         have n1_ := Aside0.mk (blk_below (g := gb237) (bk_ BK237) hb)
         have n2_ := Aside0.mk (blk_below (g := gb241) (bk_ BK241) hb)
         have n3_ := Aside0.mk (below_step (bl2_ HB GE237 GE241) hb)
         clear HO_242003
         clear BK237
         clear BK241
         clear HB
         have HO_242003 := n0_
         have BK237 := n1_
         have BK241 := n2_
         have HB := n3_
         clear n0_ n1_ n2_ n3_
         (try clear hb)
         (try clear hb2)
         (try clear hk)
         (try clear hi)
         refine hK.out _ _ ⟨⟨(blk_cell BK241.out 0).trans rfl, (blk_cell BK241.out 1).trans rfl, (blk_cell BK241.out 2).trans rfl, (blk_cell BK241.out 3).trans rfl, (blk_cell BK241.out 4).trans rfl, (blk_cell BK241.out 5).trans rfl, (blk_cell BK241.out 6).trans rfl⟩, (string_of_reads (P := Try.prog) (c := c0) Try.underlying58 Try.underlying5 Try.underlying9 (Kd.reads_of_C (Kd.C_below HR0.out (by repeat (first | exact HB.out | apply below_alloc | apply pw_below_drewN | apply below_drew1 | apply below_drew)))))⟩ (fun hHeld => ?_)
         clear hK K
         refine norm_ (a' := ?_) ?_ ?_
         rotate_left
         ·show Act.put _ (some 103) _ = _
          simp only [Act.put, List.setIfInBounds_toArray, List.set_cons_zero, List.set_cons_succ, i64_w, i32_w]
          rfl
         refine pure_ (i := 2) (N := some 104) (v := ?_) (a' := ?_) #[true, true, true, false, false, false, false, false, false, false, false] rfl rfl (any_of HT_.out (by kernel_rfl)) (fun _ _ _ h => h) (Or.inl ⟨by rfl, ?_⟩) ?_ ?_
         rotate_left
         ·intro w'
          go_simp
          with_reducible rfl
         rotate_left
         ·simp only [Act.put, List.setIfInBounds_toArray, List.set_cons_zero, List.set_cons_succ, i64_w, i32_w]
          rfl
         refine pure_ (i := 3) (N := some 105) (v := ?_) (a' := ?_) #[true, true, true, true, false, false, false, false, false, false, false] rfl rfl (any_of HT_.out (by kernel_rfl)) (fun _ _ _ h => h) (Or.inl ⟨by rfl, ?_⟩) ?_ ?_
         rotate_left
         ·intro w'
          go_simp
          with_reducible rfl
         rotate_left
         ·simp only [Act.put, List.setIfInBounds_toArray, List.set_cons_zero, List.set_cons_succ, i64_w, i32_w]
          rfl
         refine pure_ (i := 7) (N := some 109) (v := ?_) (a' := ?_) #[true, true, true, true, false, false, false, true, false, false, false] rfl rfl (any_of HT_.out (by kernel_rfl)) (fun _ _ _ h => h) (Or.inl ⟨by rfl, ?_⟩) ?_ ?_
         rotate_left
         ·intro w'
          go_simp
          with_reducible rfl
         rotate_left
         ·simp only [Act.put, List.setIfInBounds_toArray, List.set_cons_zero, List.set_cons_succ, i64_w, i32_w]
          rfl
         refine take_ (i := 8) (N := some 110) (v := ?_) (a' := ?_) #[true, true, true, true, false, false, false, true, true, false, false] rfl rfl (take_ofW HT_.out HW_.out (by kernel_rfl)) (fun _ _ _ h => h) (Or.inl ⟨by rfl, ?_⟩) hHeld ?_ ?_
         rotate_left
         ·rintro w' ⟨_, sc_⟩
          go_simp
          with_reducible rfl
         rotate_left
         ·simp only [Act.put, List.setIfInBounds_toArray, List.set_cons_zero, List.set_cons_succ, i64_w, i32_w]
          rfl
         refine take_ (i := 4) (N := some 106) (v := ?_) (a' := ?_) #[true, true, true, true, true, false, false, true, true, false, false] rfl rfl (take_ofW HT_.out HW_.out (by kernel_rfl)) (fun _ _ _ h => h) (Or.inl ⟨by rfl, ?_⟩) hHeld ?_ ?_
         rotate_left
         ·rintro w' ⟨⟨s0, s1, s2, s3, s4, s5, s6⟩, sc_⟩
          go_simp
          with_reducible rfl
         rotate_left
         ·simp only [Act.put, List.setIfInBounds_toArray, List.set_cons_zero, List.set_cons_succ, i64_w, i32_w]
          rfl
         refine one_ (i := 5) (N := some 107) #[true, true, true, true, true, true, false, true, true, false, false] rfl rfl (one_of HT_.out (by kernel_rfl)) (by decide) (fun K hK => ?_)
         refine goes_ Try.func33 (by kernel_rfl) rfl #[.agg #[.int .i64 (wrap64 (rd l0 0)), .int .i64 t240, .int .i64 x242002_9, .slice Ao113 x242003_9.length co113, .int .i64 x242004_9, .int .i64 x242005_9, .int .i64 x242006_9]] (by rfl) rfl rfl ar_ ?_
         with_reducible refine (basculeref03_Bytes.calls kj9 (wrap64 (rd l0 0)) t240 x242002_9 _ _ x242003_9 x242004_9 x242005_9 x242006_9 t267 _ ?side1 ?side2 A101.out).mono ?_
         (case side1 => exact sc_ (Kd.R_reads' HO_242003.out).2.2)
         (case side2 => exact (Kd.R_reads' HO_242003.out).2.1)
         rintro e w116 ⟨v268, rfl, ho0, hb⟩
         refine ⟨_, rfl, ?_⟩
         have n0_ := Aside0.mk (Kd.R_below (kr_ HO_242003) hb)
         have n1_ := Aside0.mk (Kd.R_lower ho0 (below_size (bl2_ HB GE237 GE241)))
         have n2_ := Aside0.mk (blk_below (g := gb237) (bk_ BK237) hb)
         have n3_ := Aside0.mk (blk_below (g := gb241) (bk_ BK241) hb)
         have n4_ := Aside0.mk (below_step (bl2_ HB GE237 GE241) hb)
         clear HO_242003
         clear BK237
         clear BK241
         clear HB
         have HO_242003 := n0_
         have HO269 := n1_
         have BK237 := n2_
         have BK241 := n3_
         have HB := n4_
         clear n0_ n1_ n2_ n3_ n4_
         (try clear hb)
         (try clear hb2)
         (try clear hk)
         (try clear hi)
         (try clear ho0)
         skip
         refine hK.out _ _ ⟨⟨(blk_cell BK241.out 0).trans rfl, (blk_cell BK241.out 1).trans rfl, (blk_cell BK241.out 2).trans rfl, (blk_cell BK241.out 3).trans rfl, (blk_cell BK241.out 4).trans rfl, (blk_cell BK241.out 5).trans rfl, (blk_cell BK241.out 6).trans rfl⟩, (string_of_reads (P := Try.prog) (c := c0) Try.underlying58 Try.underlying5 Try.underlying9 (Kd.reads_of_C (Kd.C_below HR0.out (by repeat (first | exact HB.out | apply below_alloc | apply pw_below_drewN | apply below_drew1 | apply below_drew)))))⟩ (fun hHeld => ?_)
         clear hK K
         refine norm_ (a' := ?_) ?_ ?_
         rotate_left
         ·show Act.put _ (some 107) _ = _
          simp only [Act.put, List.setIfInBounds_toArray, List.set_cons_zero, List.set_cons_succ, i64_w, i32_w]
          rfl
         refine one_ (i := 6) (N := some 108) #[true, true, true, true, true, true, true, true, true, false, false] rfl rfl (one_of HT_.out (by kernel_rfl)) (by decide) (fun K hK => ?_)
         have hcv117 := own_string (P := Try.prog) Try.underlying58 Try.underlying5 Try.underlying9 (Kd.own_of_R HO269.out)
         refine value_ (w1 := ?_) (v := ?_) (by rfl) rfl ?_ ?_
         rotate_left 2
         ·go_simp
          constructor
          ·rfl
          ·rfl
         clear hcv117
         refine hK.out _ _ ⟨⟨(blk_cell BK241.out 0).trans rfl, (blk_cell BK241.out 1).trans rfl, (blk_cell BK241.out 2).trans rfl, (blk_cell BK241.out 3).trans rfl, (blk_cell BK241.out 4).trans rfl, (blk_cell BK241.out 5).trans rfl, (blk_cell BK241.out 6).trans rfl⟩, (string_of_reads (P := Try.prog) (c := c0) Try.underlying58 Try.underlying5 Try.underlying9 (Kd.reads_of_C (Kd.C_below HR0.out (by repeat (first | exact HB.out | apply below_alloc | apply pw_below_drewN | apply below_drew1 | apply below_drew)))))⟩ (fun hHeld => ?_)
         clear hK K
         refine norm_ (a' := ?_) ?_ ?_
         rotate_left
         ·show Act.put _ (some 108) _ = _
          simp only [Act.put, List.setIfInBounds_toArray, List.set_cons_zero, List.set_cons_succ, i64_w, i32_w]
          rfl
         refine pure_ (i := 9) (N := some 111) (v := ?_) (a' := ?_) #[true, true, true, true, true, true, true, true, true, true, false] rfl rfl (any_of HT_.out (by kernel_rfl)) (fun _ _ _ h => h) (Or.inl ⟨by rfl, ?_⟩) ?_ ?_
         rotate_left
         ·intro w'
          go_simp
          with_reducible rfl
         rotate_left
         ·simp only [Act.put, List.setIfInBounds_toArray, List.set_cons_zero, List.set_cons_succ, i64_w, i32_w]
          rfl
         refine pure_ (i := 10) (N := some 112) (v := ?_) (a' := ?_) #[true, true, true, true, true, true, true, true, true, true, true] rfl rfl (any_of HT_.out (by kernel_rfl)) (fun _ _ _ h => h) (Or.inl ⟨by rfl, ?_⟩) ?_ ?_
         rotate_left
         ·intro w'
          go_simp
          with_reducible rfl
         rotate_left
         ·simp only [Act.put, List.setIfInBounds_toArray, List.set_cons_zero, List.set_cons_succ, i64_w, i32_w]
          rfl
         refine done_ (done_of HT_.out (by kernel_rfl)) ?_
         have hnb120 := NB237_241.out
         have hnc120 := NB241_237.out
         have hcz121_0 : World.cell? _ ⟨gb237, 0, none⟩ = some (.int .i64 x238000_9) := (blk_cell BK237.out 0).trans rfl
         have hcz121_1 : World.cell? _ ⟨gb237, 1, none⟩ = some (.int .i64 x238001_9) := (blk_cell BK237.out 1).trans rfl
         have hcz121_2 : World.cell? _ ⟨gb237, 2, none⟩ = some (.int .i64 x238002_9) := (blk_cell BK237.out 2).trans rfl
         have hcz121_3 : World.cell? _ ⟨gb237, 3, none⟩ = some (.slice none 0 0) := (blk_cell BK237.out 3).trans rfl
         have hcz121_4 : World.cell? _ ⟨gb237, 4, none⟩ = some (.int .i64 x238004_9) := (blk_cell BK237.out 4).trans rfl
         have hcz121_5 : World.cell? _ ⟨gb237, 5, none⟩ = some (.int .i64 x238005_9) := (blk_cell BK237.out 5).trans rfl
         have hcz121_6 : World.cell? _ ⟨gb237, 6, none⟩ = some (.int .i64 x238006_9) := (blk_cell BK237.out 6).trans rfl
         have hfz121_0 := blk_frozen BK237.out 0
         have hfz121_1 := blk_frozen BK237.out 1
         have hfz121_2 := blk_frozen BK237.out 2
         have hfz121_3 := blk_frozen BK237.out 3
         have hfz121_4 := blk_frozen BK237.out 4
         have hfz121_5 := blk_frozen BK237.out 5
         have hfz121_6 := blk_frozen BK237.out 6
         try go_wp2
         refine bodyPost_ret (results_ct rfl _ _ gb237 24 #[.int .i64 0, .int .i64 0, .int .i64 0, .slice none 0 0, .int .i64 0, .int .i64 0, .int .i64 0] (0, 0) _ rfl (by (with_reducible repeat (first | refine blk_drewN ?_ _ | refine blk_drew ?_ | refine blk_alloc ?_ _)); refine blk_put (cs := #[.int .i64 0, .int .i64 0, .int .i64 0, .slice none 0 0, .int .i64 0, .int .i64 0, .int .i64 x238006_9]) ?_ 6 _ rfl; (with_reducible repeat (first | refine blk_drewN ?_ _ | refine blk_drew ?_ | refine blk_alloc ?_ _)); refine blk_put (cs := #[.int .i64 0, .int .i64 0, .int .i64 0, .slice none 0 0, .int .i64 0, .int .i64 x238005_9, .int .i64 x238006_9]) ?_ 5 _ rfl; (with_reducible repeat (first | refine blk_drewN ?_ _ | refine blk_drew ?_ | refine blk_alloc ?_ _)); refine blk_put (cs := #[.int .i64 0, .int .i64 0, .int .i64 0, .slice none 0 0, .int .i64 x238004_9, .int .i64 x238005_9, .int .i64 x238006_9]) ?_ 4 _ rfl; (with_reducible repeat (first | refine blk_drewN ?_ _ | refine blk_drew ?_ | refine blk_alloc ?_ _)); refine blk_put (cs := #[.int .i64 0, .int .i64 0, .int .i64 0, .slice none 0 0, .int .i64 x238004_9, .int .i64 x238005_9, .int .i64 x238006_9]) ?_ 3 _ rfl; (with_reducible repeat (first | refine blk_drewN ?_ _ | refine blk_drew ?_ | refine blk_alloc ?_ _)); refine blk_put (cs := #[.int .i64 0, .int .i64 0, .int .i64 x238002_9, .slice none 0 0, .int .i64 x238004_9, .int .i64 x238005_9, .int .i64 x238006_9]) ?_ 2 _ rfl; (with_reducible repeat (first | refine blk_drewN ?_ _ | refine blk_drew ?_ | refine blk_alloc ?_ _)); refine blk_put (cs := #[.int .i64 0, .int .i64 x238001_9, .int .i64 x238002_9, .slice none 0 0, .int .i64 x238004_9, .int .i64 x238005_9, .int .i64 x238006_9]) ?_ 1 _ rfl; (with_reducible repeat (first | refine blk_drewN ?_ _ | refine blk_drew ?_ | refine blk_alloc ?_ _)); refine blk_put (cs := #[.int .i64 x238000_9, .int .i64 x238001_9, .int .i64 x238002_9, .slice none 0 0, .int .i64 x238004_9, .int .i64 x238005_9, .int .i64 x238006_9]) ?_ 0 _ rfl; (with_reducible repeat (first | refine blk_drewN ?_ _ | refine blk_drew ?_ | refine blk_alloc ?_ _)); exact BK237.out) Try.underlying24 rfl (by kernel_rfl)) rfl ?_
         exact ⟨_, er_, by first | exact Kd.R_nil _ _ _ _ _ | exact Kd.N_nil _ _ _ _ _ | exact Kd.V_nil _ _ _ _ _ | exact Kd.Q_nil _ _ _ _ _ | exact Kd.S_nil _ _ _ _ _, bl2_ HB GE237 GE241⟩
       ·replace c100 := Bool.eq_false_iff.mpr c100
        subst c100
        have H1 : (some (0, 0, 0, ([] : List Int), 0, 0, 0, false)) = some (r1, r2, r3, r4, r5, r6, r7, r8) := by rw [if_neg (show ¬ (false = true) by decide)] at H; exact H
        clear H
        have H := H1
        clear H1
        simp only [Option.some.injEq, Prod.mk.injEq] at H
        obtain ⟨rfl, rfl, rfl, rfl, rfl, rfl, rfl, rfl⟩ := H
        try go_wp2
        have n0_ := Aside0.mk (Kd.R_drew HO_242003.out)
        have n1_ := Aside0.mk (blk_drew BK237.out)
        have n2_ := Aside0.mk (blk_drew BK241.out)
        have n3_ := Aside0.mk (below_drew1 HB.out)
        clear HO_242003
        clear BK237
        clear BK241
        clear HB
        have HO_242003 := n0_
        have BK237 := n1_
        have BK241 := n2_
        have HB := n3_
        clear n0_ n1_ n2_ n3_
        obtain ⟨Ao123, co123, eo123⟩ := Kd.R_slice HO_242003.out
        (first | subst eo123 | (injection eo123 with f1_ f2_ f3_; have f4_ := f1_.symm; have f5_ := f3_.symm; clear f1_ f2_ f3_; subst f4_; subst f5_))
        refine start_ (n := 11) (S := fun w' => w'.cell? ⟨gb241, 0, none⟩ = some (.int .i64 (wrap64 (rd l0 0))) ∧ w'.cell? ⟨gb241, 1, none⟩ = some (.int .i64 t240) ∧ w'.cell? ⟨gb241, 2, none⟩ = some (.int .i64 x242002_9) ∧ w'.cell? ⟨gb241, 3, none⟩ = some (.slice Ao123 x242003_9.length co123) ∧ w'.cell? ⟨gb241, 4, none⟩ = some (.int .i64 x242004_9) ∧ w'.cell? ⟨gb241, 5, none⟩ = some (.int .i64 x242005_9) ∧ w'.cell? ⟨gb241, 6, none⟩ = some (.int .i64 x242006_9)) (ds := []) #[false, false, false, false, false, false, false, false, false, false, false] (by kernel_rfl) rfl rfl ⟨(blk_cell BK241.out 0).trans rfl, (blk_cell BK241.out 1).trans rfl, (blk_cell BK241.out 2).trans rfl, (blk_cell BK241.out 3).trans rfl, (blk_cell BK241.out 4).trans rfl, (blk_cell BK241.out 5).trans rfl, (blk_cell BK241.out 6).trans rfl⟩ (fun hHeld => ?_); refine with_tabW basculeref03_Parse.tab36 basculeref03_Parse.bits36 (fun HT_ HW_ => ?_)
        generalize wc.drew = w122 at HO_242003 BK237 BK241 HB hHeld ⊢
        refine take_ (i := 0) (N := some 102) (v := ?_) (a' := ?_) #[true, false, false, false, false, false, false, false, false, false, false] rfl rfl (take_ofW HT_.out HW_.out (by kernel_rfl)) (fun _ _ _ h => h) (Or.inl ⟨by rfl, ?_⟩) hHeld ?_ ?_
        rotate_left
        ·rintro w' ⟨s0, s1, s2, s3, s4, s5, s6⟩
         go_simp
         with_reducible rfl
        rotate_left
        ·simp only [Act.put, List.setIfInBounds_toArray, List.set_cons_zero, List.set_cons_succ, i64_w, i32_w]
         rfl
        refine one_ (i := 1) (N := some 103) #[true, true, false, false, false, false, false, false, false, false, false] rfl rfl (one_of HT_.out (by kernel_rfl)) (by decide) (fun K hK => ?_)
        refine goes_ Try.func20 (by kernel_rfl) rfl #[.agg #[.int .i64 (wrap64 (rd l0 0)), .int .i64 t240, .int .i64 x242002_9, .slice Ao123 x242003_9.length co123, .int .i64 x242004_9, .int .i64 x242005_9, .int .i64 x242006_9]] (by rfl) rfl rfl ar_ ?_
        with_reducible refine (ExtU.basculeref03_May.calls (wrap64 (rd l0 0)) t240 x242002_9 _ _ x242003_9 x242004_9 x242005_9 x242006_9 false _ ?side1 ?side2 A99.out).mono ?_
        (case side1 => exact sc_ (Kd.R_reads' HO_242003.out).2.2)
        (case side2 => exact (Kd.R_reads' HO_242003.out).2.1)
        rintro e w124 ⟨rfl, hb⟩
        refine ⟨_, rfl, ?_⟩
        have n0_ := Aside0.mk (Kd.R_below (kr_ HO_242003) hb)
        have n1_ := Aside0.mk (blk_below (g := gb237) (bk_ BK237) hb)
        have n2_ := Aside0.mk (blk_below (g := gb241) (bk_ BK241) hb)
        have n3_ := Aside0.mk (below_step (bl2_ HB GE237 GE241) hb)
        clear HO_242003
        clear BK237
        clear BK241
        clear HB
        have HO_242003 := n0_
        have BK237 := n1_
        have BK241 := n2_
        have HB := n3_
        clear n0_ n1_ n2_ n3_
        (try clear hb)
        (try clear hb2)
        (try clear hk)
        (try clear hi)
        refine hK.out _ _ ⟨(blk_cell BK241.out 0).trans rfl, (blk_cell BK241.out 1).trans rfl, (blk_cell BK241.out 2).trans rfl, (blk_cell BK241.out 3).trans rfl, (blk_cell BK241.out 4).trans rfl, (blk_cell BK241.out 5).trans rfl, (blk_cell BK241.out 6).trans rfl⟩ (fun hHeld => ?_)
        clear hK K
        refine norm_ (a' := ?_) ?_ ?_
        rotate_left
        ·show Act.put _ (some 103) _ = _
         simp only [Act.put, List.setIfInBounds_toArray, List.set_cons_zero, List.set_cons_succ, i64_w, i32_w]
         rfl
        refine pure_ (i := 2) (N := some 104) (v := ?_) (a' := ?_) #[true, true, true, false, false, false, false, false, false, false, false] rfl rfl (any_of HT_.out (by kernel_rfl)) (fun _ _ _ h => h) (Or.inl ⟨by rfl, ?_⟩) ?_ ?_
        rotate_left
        ·intro w'
         go_simp
         with_reducible rfl
        rotate_left
        ·simp only [Act.put, List.setIfInBounds_toArray, List.set_cons_zero, List.set_cons_succ, i64_w, i32_w]
         rfl
        refine pure_ (i := 3) (N := some 105) (v := ?_) (a' := ?_) #[true, true, true, true, false, false, false, false, false, false, false] rfl rfl (any_of HT_.out (by kernel_rfl)) (fun _ _ _ h => h) (Or.inl ⟨by rfl, ?_⟩) ?_ ?_
        rotate_left
        ·intro w'
         go_simp
         with_reducible rfl
        rotate_left
        ·simp only [Act.put, List.setIfInBounds_toArray, List.set_cons_zero, List.set_cons_succ, i64_w, i32_w]
         rfl
        refine pure_ (i := 4) (N := some 106) (v := undef) (a' := ?_) #[true, true, true, true, true, false, false, false, false, false, false] rfl rfl (any_of HT_.out (by kernel_rfl)) (fun _ _ _ h => h) (Or.inr ⟨by rfl, rfl⟩) ?_ ?_
        rotate_left
        ·simp only [Act.put, List.setIfInBounds_toArray, List.set_cons_zero, List.set_cons_succ, i64_w, i32_w]
         rfl
        refine pure_ (i := 5) (N := some 107) (v := undef) (a' := ?_) #[true, true, true, true, true, true, false, false, false, false, false] rfl rfl (any_of HT_.out (by kernel_rfl)) (fun _ _ _ h => h) (Or.inr ⟨by rfl, rfl⟩) ?_ ?_
        rotate_left
        ·simp only [Act.put, List.setIfInBounds_toArray, List.set_cons_zero, List.set_cons_succ, i64_w, i32_w]
         rfl
        refine pure_ (i := 6) (N := some 108) (v := undef) (a' := ?_) #[true, true, true, true, true, true, true, false, false, false, false] rfl rfl (any_of HT_.out (by kernel_rfl)) (fun _ _ _ h => h) (Or.inr ⟨by rfl, rfl⟩) ?_ ?_
        rotate_left
        ·simp only [Act.put, List.setIfInBounds_toArray, List.set_cons_zero, List.set_cons_succ, i64_w, i32_w]
         rfl
        refine pure_ (i := 7) (N := some 109) (v := undef) (a' := ?_) #[true, true, true, true, true, true, true, true, false, false, false] rfl rfl (any_of HT_.out (by kernel_rfl)) (fun _ _ _ h => h) (Or.inr ⟨by rfl, rfl⟩) ?_ ?_
        rotate_left
        ·simp only [Act.put, List.setIfInBounds_toArray, List.set_cons_zero, List.set_cons_succ, i64_w, i32_w]
         rfl
        refine pure_ (i := 8) (N := some 110) (v := undef) (a' := ?_) #[true, true, true, true, true, true, true, true, true, false, false] rfl rfl (any_of HT_.out (by kernel_rfl)) (fun _ _ _ h => h) (Or.inr ⟨by rfl, rfl⟩) ?_ ?_
        rotate_left
        ·simp only [Act.put, List.setIfInBounds_toArray, List.set_cons_zero, List.set_cons_succ, i64_w, i32_w]
         rfl
        refine pure_ (i := 9) (N := some 111) (v := undef) (a' := ?_) #[true, true, true, true, true, true, true, true, true, true, false] rfl rfl (any_of HT_.out (by kernel_rfl)) (fun _ _ _ h => h) (Or.inr ⟨by rfl, rfl⟩) ?_ ?_
        rotate_left
        ·simp only [Act.put, List.setIfInBounds_toArray, List.set_cons_zero, List.set_cons_succ, i64_w, i32_w]
         rfl
        refine pure_ (i := 10) (N := some 112) (v := ?_) (a' := ?_) #[true, true, true, true, true, true, true, true, true, true, true] rfl rfl (any_of HT_.out (by kernel_rfl)) (fun _ _ _ h => h) (Or.inl ⟨by rfl, ?_⟩) ?_ ?_
        rotate_left
        ·intro w'
         go_simp
         with_reducible rfl
        rotate_left
        ·simp only [Act.put, List.setIfInBounds_toArray, List.set_cons_zero, List.set_cons_succ, i64_w, i32_w]
         rfl
        refine done_ (done_of HT_.out (by kernel_rfl)) ?_
        have hnb125 := NB237_241.out
        have hnc125 := NB241_237.out
        refine cz7_ BK237.out ?_; intro hcz126_0 hcz126_1 hcz126_2 hcz126_3 hcz126_4 hcz126_5 hcz126_6 hfz126_0 hfz126_1 hfz126_2 hfz126_3 hfz126_4 hfz126_5 hfz126_6
        try go_wp2
        refine bodyPost_ret (results_ct rfl _ _ gb237 24 #[.int .i64 0, .int .i64 0, .int .i64 0, .slice none 0 0, .int .i64 0, .int .i64 0, .int .i64 0] (0, 0) _ rfl (by (with_reducible repeat (first | refine blk_drewN ?_ _ | refine blk_drew ?_ | refine blk_alloc ?_ _)); refine blk_put (cs := #[.int .i64 0, .int .i64 0, .int .i64 0, .slice none 0 0, .int .i64 0, .int .i64 0, .int .i64 x238006_9]) ?_ 6 _ rfl; (with_reducible repeat (first | refine blk_drewN ?_ _ | refine blk_drew ?_ | refine blk_alloc ?_ _)); refine blk_put (cs := #[.int .i64 0, .int .i64 0, .int .i64 0, .slice none 0 0, .int .i64 0, .int .i64 x238005_9, .int .i64 x238006_9]) ?_ 5 _ rfl; (with_reducible repeat (first | refine blk_drewN ?_ _ | refine blk_drew ?_ | refine blk_alloc ?_ _)); refine blk_put (cs := #[.int .i64 0, .int .i64 0, .int .i64 0, .slice none 0 0, .int .i64 x238004_9, .int .i64 x238005_9, .int .i64 x238006_9]) ?_ 4 _ rfl; (with_reducible repeat (first | refine blk_drewN ?_ _ | refine blk_drew ?_ | refine blk_alloc ?_ _)); refine blk_put (cs := #[.int .i64 0, .int .i64 0, .int .i64 0, .slice none 0 0, .int .i64 x238004_9, .int .i64 x238005_9, .int .i64 x238006_9]) ?_ 3 _ rfl; (with_reducible repeat (first | refine blk_drewN ?_ _ | refine blk_drew ?_ | refine blk_alloc ?_ _)); refine blk_put (cs := #[.int .i64 0, .int .i64 0, .int .i64 x238002_9, .slice none 0 0, .int .i64 x238004_9, .int .i64 x238005_9, .int .i64 x238006_9]) ?_ 2 _ rfl; (with_reducible repeat (first | refine blk_drewN ?_ _ | refine blk_drew ?_ | refine blk_alloc ?_ _)); refine blk_put (cs := #[.int .i64 0, .int .i64 x238001_9, .int .i64 x238002_9, .slice none 0 0, .int .i64 x238004_9, .int .i64 x238005_9, .int .i64 x238006_9]) ?_ 1 _ rfl; (with_reducible repeat (first | refine blk_drewN ?_ _ | refine blk_drew ?_ | refine blk_alloc ?_ _)); refine blk_put (cs := #[.int .i64 x238000_9, .int .i64 x238001_9, .int .i64 x238002_9, .slice none 0 0, .int .i64 x238004_9, .int .i64 x238005_9, .int .i64 x238006_9]) ?_ 0 _ rfl; (with_reducible repeat (first | refine blk_drewN ?_ _ | refine blk_drew ?_ | refine blk_alloc ?_ _)); exact BK237.out) Try.underlying24 rfl (by kernel_rfl)) rfl ?_
        exact ⟨_, er_, by first | exact Kd.R_nil _ _ _ _ _ | exact Kd.N_nil _ _ _ _ _ | exact Kd.V_nil _ _ _ _ _ | exact Kd.Q_nil _ _ _ _ _ | exact Kd.S_nil _ _ _ _ _, bl2_ HB GE237 GE241⟩
    ·rw [if_neg c8] at H
     exact absurd H (by simp)
   ·rw [if_neg c6] at H
    exact absurd H (by simp)
  ·rw [if_neg c5] at H
   exact absurd H (by simp)
end Go.Proofs.Ytocicifgglkaeaa.PR
end

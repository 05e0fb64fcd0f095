/- The words, contracts and walks that this claim leans on, put together by a program of this session (part 2). -/
import Derived.Test.YtocicifgglkaeaaZP1
section
namespace Go.Proofs.Ytocicifgglkaeaa.PQ
open Go.RowKit Go.Proofs.YtocicifgglkaeaaW.PrintWords Go.Proofs.YtocicifgglkaeaaW.PrintLast Go.Proofs.YtocicifgglkaeaaW.PrintMore
attribute [local go_sem] max2_int min2_int max_two min_two max_three min_three max_four min_four   
set_option linter.unusedVariables false
set_option linter.unusedSimpArgs false
open Go.Proofs.Ytocicifgglkaeaa.Ext Go.Proofs.Ytocicifgglkaeaa.PP Go.Proofs.Ytocicifgglkaeaa.ExtF
def pdu_answer.j0 : Nat → Int → Bool → Int → Int → Int → List Int → Int → Int → Int → List Int → Int → Option (Bool)
 | 0, _, _, _, _, _, _, _, _, _, _, _ => none
 | k + 1, x18, x19, x212000, x212001, x212002, x212003, x212004, x212005, x212006, x213000, x213001 => if x19 = true then ((pdu_some.f k x213000 x212002 x212002 1).bind fun t214 => (some t214)) else (if x18 = 3 then ((pdu_some.f k x213000 x212002 x212002 65535).bind fun t215 => (some t215)) else (if x18 = 4 then ((pdu_some.f k x213000 x212002 x212002 65535).bind fun t216 => (some t216)) else (if x18 = 23 then ((pdu_some.f k x213000 x212002 x212002 65535).bind fun t217 => (some t217)) else (some ((x213000.length : Int) == 0)))))
def pdu_answer.f (k : Nat) (a0_0 : Int) (a0_1 : Int) (a0_2 : Int) (l0_3 : List Int) (a0_4 : Int) (a0_5 : Int) (a0_6 : Int) (l1_0 : List Int) (a1_1 : Int) : Option (Bool) := if a1_1 = 0 then (if a0_0 = 1 then (pdu_answer.j0 k a0_0 (a0_0 == 1) a0_0 a0_1 a0_2 l0_3 a0_4 a0_5 a0_6 l1_0 a1_1) else (pdu_answer.j0 k a0_0 (a0_0 == 2) a0_0 a0_1 a0_2 l0_3 a0_4 a0_5 a0_6 l1_0 a1_1)) else ((pdu_within.f a1_1 1 255).bind fun t213 => (if t213 = true then (some ((l1_0.length : Int) == 0)) else (some false)))
theorem pdu_answer.mono_l : ∀ k, (∀ y0 y1 y2 y3 y4 y5 y6 y7 y8 y9 y10, LeO (pdu_answer.j0 k y0 y1 y2 y3 y4 y5 y6 y7 y8 y9 y10) (pdu_answer.j0 (k + 1) y0 y1 y2 y3 y4 y5 y6 y7 y8 y9 y10))
 | 0 => fun _ _ _ _ _ _ _ _ _ _ _ r h => by simp [pdu_answer.j0] at h
 | k + 1 => by
  have ih0 := pdu_answer.mono_l k
  ·intro y0 y1 y2 y3 y4 y5 y6 y7 y8 y9 y10
   unfold pdu_answer.j0
   repeat' first
   | (with_reducible exact ih0 _ _ _ _ _ _ _ _ _ _ _)
   | (with_reducible exact pdu_some.mono _ _ _ _ _)
   | (with_reducible exact LeO.refl _)
   | (with_reducible exact LeO.none _)
   | (with_reducible refine LeO.ite ?_ ?_)
   | (with_reducible refine LeO.bind ?_ (fun _ => ?_))
   | exact ih0 _ _ _ _ _ _ _ _ _ _ _
   | exact pdu_some.mono _ _ _ _ _
   | exact LeO.none _
   | refine LeO.ite ?_ ?_
   | refine LeO.bind ?_ (fun _ => ?_)
theorem pdu_answer.mono : ∀ a0 a1 a2 a3 a4 a5 a6 a7 a8 k, LeO (pdu_answer.f k a0 a1 a2 a3 a4 a5 a6 a7 a8) (pdu_answer.f (k + 1) a0 a1 a2 a3 a4 a5 a6 a7 a8) := by
 intro a0 a1 a2 a3 a4 a5 a6 a7 a8 k
 have ih0 := pdu_answer.mono_l k
 unfold pdu_answer.f
 repeat' first
  | (with_reducible exact ih0 _ _ _ _ _ _ _ _ _ _ _)
  | (with_reducible exact pdu_some.mono _ _ _ _ _)
  | (with_reducible exact LeO.refl _)
  | (with_reducible exact LeO.none _)
  | (with_reducible refine LeO.ite ?_ ?_)
  | (with_reducible refine LeO.bind ?_ (fun _ => ?_))
  | exact ih0 _ _ _ _ _ _ _ _ _ _ _
  | exact pdu_some.mono _ _ _ _ _
  | exact LeO.none _
  | refine LeO.ite ?_ ?_
  | refine LeO.bind ?_ (fun _ => ?_)
set_option maxHeartbeats 8000000 in
set_option maxRecDepth 100000 in
theorem pdu_answer.calls (k : Nat) (a0_0 : Int) (a0_1 : Int) (a0_2 : Int) (A0_3 : Option Addr) (c0_3 : Nat) (l0_3 : List Int) (a0_4 : Int) (a0_5 : Int) (a0_6 : Int) (A1_0 : Option Addr) (c1_0 : Nat) (l1_0 : List Int) (a1_1 : Int) (r : Bool) (w : World) (hr0_3 : Kd.C (Kd.int .i64) w A0_3 l0_3.length l0_3) (hc0_3 : l0_3.length ≤ c0_3) (hr1_0 : Kd.C (Kd.int .i64) w A1_0 l1_0.length l1_0) (hc1_0 : l1_0.length ≤ c1_0) (h : pdu_answer.f k a0_0 a0_1 a0_2 l0_3 a0_4 a0_5 a0_6 l1_0 a1_1 = some r) :
 Calls Try.prog 66 #[.agg #[.int .i64 a0_0, .int .i64 a0_1, .int .i64 a0_2, .slice A0_3 l0_3.length c0_3, .int .i64 a0_4, .int .i64 a0_5, .int .i64 a0_6], .agg #[.slice A1_0 l1_0.length c1_0, .int .i64 a1_1]] w fun e w' => e = .returned (.bool r) ∧ Below w.heap.size w w' := by
 have hu24 := Try.underlying24
 have hu30 := Try.underlying30
 have HR0_3 := Aside0.mk hr0_3
 have HC0_3 := Aside0.mk hc0_3
 clear hr0_3 hc0_3
 have HR1_0 := Aside0.mk hr1_0
 have HC1_0 := Aside0.mk hc1_0
 clear hr1_0 hc1_0
 have HB := Aside0.mk (Below.refl w.heap.size w)
 have H : (if a1_1 = 0 then (if a0_0 = 1 then (pdu_answer.j0 k a0_0 (a0_0 == 1) a0_0 a0_1 a0_2 l0_3 a0_4 a0_5 a0_6 l1_0 a1_1) else (pdu_answer.j0 k a0_0 (a0_0 == 2) a0_0 a0_1 a0_2 l0_3 a0_4 a0_5 a0_6 l1_0 a1_1)) else ((pdu_within.f a1_1 1 255).bind fun t213 => (if t213 = true then (some ((l1_0.length : Int) == 0)) else (some false)))) = some r := h
 clear h
 by_cases c3 : a1_1 = 0
 ·rw [if_pos c3] at H
  have c3b0 : (a1_1 == 0) = true := beq_iff_eq.mpr c3
  have c3b1 : (a1_1 != 0) = false := bne_eq_false_iff_eq.mpr c3
  clear c3
  have HC4 := Aside0.mk H
  clear H
  go_enter Try.func66, Try.ntmps66
  go_upto_if 19 with (first | ((with_reducible refine gate_dst (N := 2) rfl ?_); (try (refine gate_guard (by rfl) ?_; dsimp only)); refine bx_ (N := 2) (cs := #[.int .i64 a0_0, .int .i64 a0_1, .int .i64 a0_2, .slice A0_3 l0_3.length c0_3, .int .i64 a0_4, .int .i64 a0_5, .int .i64 a0_6]) (t := 24) ?_; intro gb211 hg w5 hbox hb; have n0_ := Aside0.mk (below_step (bl0_ HB) hb); have n1_ := Aside0.mk (hbox); have n2_ := Aside0.mk ((by rw [hg]; exact (below_size (bl0_ HB)) : w.heap.size ≤ gb211)); have n3_ := Aside0.mk ((by rw [hg]; exact (below_size (bl0_ HB)) : w.heap.size ≤ gb211)); clear HB; have HB := n0_; have BK211 := n1_; have GW211 := n2_; have GE211 := n3_; clear n0_ n1_ n2_ n3_; clear hb hbox hg) | ((with_reducible refine gate_dst (N := 3) rfl ?_); (try (refine gate_guard (by rfl) ?_; dsimp only)); refine bx_ (N := 3) (cs := #[.slice A1_0 l1_0.length c1_0, .int .i64 a1_1]) (t := 30) ?_; intro gb212 hg w6 hbox hb; have n0_ := Aside0.mk (blk_below (g := gb211) (bk_ BK211) hb); have n1_ := Aside0.mk (below_step (bl1_ HB GE211) hb); have n2_ := Aside0.mk (hbox); have n3_ := Aside0.mk ((by rw [hg]; exact (below_size (bl1_ HB GE211)) : w.heap.size ≤ gb212)); have n4_ := Aside0.mk ((by rw [hg]; exact (below_size (bl1_ HB GE211)) : w.heap.size ≤ gb212)); have n5_ := Aside0.mk ((by rw [hg]; exact Nat.ne_of_lt (blk_lt (g := gb211) (bk_ BK211)) : gb211 ≠ gb212)); have n6_ := Aside0.mk ((by rw [hg]; exact Nat.ne_of_gt (blk_lt (g := gb211) (bk_ BK211)) : gb212 ≠ gb211)); clear BK211; clear HB; have BK211 := n0_; have HB := n1_; have BK212 := n2_; have GW212 := n3_; have GE212 := n4_; have NB211_212 := n5_; have NB212_211 := n6_; clear n0_ n1_ n2_ n3_ n4_ n5_ n6_; clear hb hbox hg; have hnb7 := NB212_211.out; have hnc7 := NB211_212.out; refine cz2_ BK212.out ?_; intro hcz8_0 hcz8_1 hfz8_0 hfz8_1; refine cz7_ BK211.out ?_; intro hcz9_0 hcz9_1 hcz9_2 hcz9_3 hcz9_4 hcz9_5 hcz9_6 hfz9_0 hfz9_1 hfz9_2 hfz9_3 hfz9_4 hfz9_5 hfz9_6))
  (try simp only [Act.put, List.setIfInBounds_toArray, List.set_cons_zero, List.set_cons_succ])
  go_cut [19] (fun v19 wc => ∃ (kq : Nat) (x19_3 : Bool), v19 = .bool x19_3 ∧ Aside0 (pdu_answer.j0 kq a0_0 x19_3 a0_0 a0_1 a0_2 l0_3 a0_4 a0_5 a0_6 l1_0 a1_1 = some r) ∧ Aside0 (kq ≤ k) ∧ Aside0 (wc.heap[gb211]? = some (.cells #[.int .i64 a0_0, .int .i64 a0_1, .int .i64 a0_2, (.slice A0_3 l0_3.length c0_3), .int .i64 a0_4, .int .i64 a0_5, .int .i64 a0_6] 24 (0, 0))) ∧ Aside0 (wc.heap[gb212]? = some (.cells #[(.slice A1_0 l1_0.length c1_0), .int .i64 a1_1] 30 (0, 0))) ∧ Aside0 (Below w.heap.size w wc))
  case first =>
   have H := HC4.out
   clear HC4
   by_cases c10 : a0_0 = 1
   ·rw [if_pos c10] at H
    have c10b0 : (a0_0 == 1) = true := beq_iff_eq.mpr c10
    have c10b1 : (a0_0 != 1) = false := bne_eq_false_iff_eq.mpr c10
    clear c10
    (first | rw [c10b0] | (simp only [i64_w, i32_w]; rw [c10b0]) | skip)
    have H' := Aside0.mk H
    clear H
    go_wp2
    go_meet
    case rel => exact ⟨_, ((a0_0 == 1)), (by first | rfl | (simp; done) | (simp [*]; done)), H', ⟨by first | omega | exact Nat.le_refl _⟩, ⟨bk_ BK211⟩, ⟨bk_ BK212⟩, ⟨bl2_ HB GE211 GE212⟩⟩
   ·rw [if_neg c10] at H
    have c10b0 : (a0_0 == 1) = false := beq_eq_false_iff_ne.mpr c10
    have c10b1 : (a0_0 != 1) = true := bne_iff_ne.mpr c10
    (first | rw [c10b0] | (simp only [i64_w, i32_w]; rw [c10b0]) | skip)
    have H' := Aside0.mk H
    clear H
    go_wp2
    go_meet
    case rel => exact ⟨_, ((a0_0 == 2)), (by first | rfl | (simp; done) | (simp [*]; done)), H', ⟨by first | omega | exact Nat.le_refl _⟩, ⟨bk_ BK211⟩, ⟨bk_ BK212⟩, ⟨bl2_ HB GE211 GE212⟩⟩
  case rest =>
   clear HC4
   try clear c1
   try clear p2
   try clear c3
   try clear c3b0
   try clear c3b1
   try clear c6
   try clear c7
   try clear c10
   try clear c10b0
   try clear c10b1
   try clear hcz8_0 hcz8_1
   try clear hcz9_0 hcz9_1 hcz9_2 hcz9_3 hcz9_4 hcz9_5 hcz9_6
   try clear hfz8_0 hfz8_1
   try clear hfz9_0 hfz9_1 hfz9_2 hfz9_3 hfz9_4 hfz9_5 hfz9_6
   obtain ⟨kq, x19_3, rfl, HA, HJ3, BK211, BK212, HB⟩ := hcut
   cases kq with
   | zero => exact absurd HA.out (by simp [pdu_answer.j0])
   | succ kj3 =>
    have H := HA.out
    clear HA
    simp only [pdu_answer.j0] at H
    by_cases c11 : x19_3 = true
    ·subst c11
     have H1 : ((pdu_some.f kj3 l1_0 a0_2 a0_2 1).bind fun t214 => (some t214)) = some r := by rw [if_pos rfl] at H; exact H
     clear H
     have H := H1
     clear H1
     replace H := Option.bind_eq_some_iff.mp H
     obtain ⟨t214, A120, H⟩ := H
     replace H : (some t214) = some r := H
     have A12 := Aside0.mk A120
     clear A120
     obtain rfl := Option.some.inj H
     have hnb13 := NB212_211.out
     have hnc13 := NB211_212.out
     refine cz2_ BK212.out ?_; intro hcz14_0 hcz14_1 hfz14_0 hfz14_1
     refine cz7_ BK211.out ?_; intro hcz15_0 hcz15_1 hcz15_2 hcz15_3 hcz15_4 hcz15_5 hcz15_6 hfz15_0 hfz15_1 hfz15_2 hfz15_3 hfz15_4 hfz15_5 hfz15_6
     go_wp2_with (first | ((with_reducible refine gate_callee (f := 51) rfl ?_); refine goesL_ (some 28) rfl rfl Try.func51 (by kernel_rfl) rfl #[.slice A1_0 l1_0.length c1_0, .int .i64 a0_2, .int .i64 a0_2, .int .i64 1] rfl ar_ ?_; (with_reducible refine (pdu_some.calls kj3 _ _ l1_0 a0_2 a0_2 1 t214 _ ?side1 ?side2 A12.out).mono ?_); (case side1 => exact sc_ (Kd.C_below HR1_0.out HB.out)); (case side2 => exact HC1_0.out); rintro e w' ⟨rfl, ⟨nd, rfl⟩⟩; refine ⟨_, rfl, ?_⟩))
     go_ret
     exact ⟨er_, bl2_ HB GE211 GE212⟩
    ·replace c11 := Bool.eq_false_iff.mpr c11
     subst c11
     have H1 : (if a0_0 = 3 then ((pdu_some.f kj3 l1_0 a0_2 a0_2 65535).bind fun t215 => (some t215)) else (if a0_0 = 4 then ((pdu_some.f kj3 l1_0 a0_2 a0_2 65535).bind fun t216 => (some t216)) else (if a0_0 = 23 then ((pdu_some.f kj3 l1_0 a0_2 a0_2 65535).bind fun t217 => (some t217)) else (some ((l1_0.length : Int) == 0))))) = some r := by rw [if_neg (show ¬ (false = true) by decide)] at H; exact H
     clear H
     have H := H1
     clear H1
     by_cases c16 : a0_0 = 3
     ·rw [if_pos c16] at H
      have c16b0 : (a0_0 == 3) = true := beq_iff_eq.mpr c16
      have c16b1 : (a0_0 != 3) = false := bne_eq_false_iff_eq.mpr c16
      clear c16
      replace H := Option.bind_eq_some_iff.mp H
      obtain ⟨t215, A170, H⟩ := H
      replace H : (some t215) = some r := H
      have A17 := Aside0.mk A170
      clear A170
      obtain rfl := Option.some.inj H
      have hnb18 := NB212_211.out
      have hnc18 := NB211_212.out
      refine cz2_ BK212.out ?_; intro hcz19_0 hcz19_1 hfz19_0 hfz19_1
      refine cz7_ BK211.out ?_; intro hcz20_0 hcz20_1 hcz20_2 hcz20_3 hcz20_4 hcz20_5 hcz20_6 hfz20_0 hfz20_1 hfz20_2 hfz20_3 hfz20_4 hfz20_5 hfz20_6
      go_wp2_with (first | ((with_reducible refine gate_callee (f := 51) rfl ?_); refine goesL_ (some 39) rfl rfl Try.func51 (by kernel_rfl) rfl #[.slice A1_0 l1_0.length c1_0, .int .i64 a0_2, .int .i64 a0_2, .int .i64 65535] rfl ar_ ?_; (with_reducible refine (pdu_some.calls kj3 _ _ l1_0 a0_2 a0_2 65535 t215 _ ?side1 ?side2 A17.out).mono ?_); (case side1 => exact sc_ (Kd.C_below HR1_0.out HB.out)); (case side2 => exact HC1_0.out); rintro e w' ⟨rfl, ⟨nd, rfl⟩⟩; refine ⟨_, rfl, ?_⟩))
      go_ret
      exact ⟨er_, bl2_ HB GE211 GE212⟩
     ·rw [if_neg c16] at H
      have c16b0 : (a0_0 == 3) = false := beq_eq_false_iff_ne.mpr c16
      have c16b1 : (a0_0 != 3) = true := bne_iff_ne.mpr c16
      by_cases c21 : a0_0 = 4
      ·rw [if_pos c21] at H
       have c21b0 : (a0_0 == 4) = true := beq_iff_eq.mpr c21
       have c21b1 : (a0_0 != 4) = false := bne_eq_false_iff_eq.mpr c21
       clear c21
       replace H := Option.bind_eq_some_iff.mp H
       obtain ⟨t216, A220, H⟩ := H
       replace H : (some t216) = some r := H
       have A22 := Aside0.mk A220
       clear A220
       obtain rfl := Option.some.inj H
       have hnb23 := NB212_211.out
       have hnc23 := NB211_212.out
       refine cz2_ BK212.out ?_; intro hcz24_0 hcz24_1 hfz24_0 hfz24_1
       refine cz7_ BK211.out ?_; intro hcz25_0 hcz25_1 hcz25_2 hcz25_3 hcz25_4 hcz25_5 hcz25_6 hfz25_0 hfz25_1 hfz25_2 hfz25_3 hfz25_4 hfz25_5 hfz25_6
       go_wp2_with (first | ((with_reducible refine gate_callee (f := 51) rfl ?_); refine goesL_ (some 39) rfl rfl Try.func51 (by kernel_rfl) rfl #[.slice A1_0 l1_0.length c1_0, .int .i64 a0_2, .int .i64 a0_2, .int .i64 65535] rfl ar_ ?_; (with_reducible refine (pdu_some.calls kj3 _ _ l1_0 a0_2 a0_2 65535 t216 _ ?side1 ?side2 A22.out).mono ?_); (case side1 => exact sc_ (Kd.C_below HR1_0.out HB.out)); (case side2 => exact HC1_0.out); rintro e w' ⟨rfl, ⟨nd, rfl⟩⟩; refine ⟨_, rfl, ?_⟩))
       go_ret
       exact ⟨er_, bl2_ HB GE211 GE212⟩
      ·rw [if_neg c21] at H
       have c21b0 : (a0_0 == 4) = false := beq_eq_false_iff_ne.mpr c21
       have c21b1 : (a0_0 != 4) = true := bne_iff_ne.mpr c21
       by_cases c26 : a0_0 = 23
       ·rw [if_pos c26] at H
        have c26b0 : (a0_0 == 23) = true := beq_iff_eq.mpr c26
        have c26b1 : (a0_0 != 23) = false := bne_eq_false_iff_eq.mpr c26
        clear c26
        replace H := Option.bind_eq_some_iff.mp H
        obtain ⟨t217, A270, H⟩ := H
        replace H : (some t217) = some r := H
        have A27 := Aside0.mk A270
        clear A270
        obtain rfl := Option.some.inj H
        have hnb28 := NB212_211.out
        have hnc28 := NB211_212.out
        refine cz2_ BK212.out ?_; intro hcz29_0 hcz29_1 hfz29_0 hfz29_1
        refine cz7_ BK211.out ?_; intro hcz30_0 hcz30_1 hcz30_2 hcz30_3 hcz30_4 hcz30_5 hcz30_6 hfz30_0 hfz30_1 hfz30_2 hfz30_3 hfz30_4 hfz30_5 hfz30_6
        go_wp2_with (first | ((with_reducible refine gate_callee (f := 51) rfl ?_); refine goesL_ (some 39) rfl rfl Try.func51 (by kernel_rfl) rfl #[.slice A1_0 l1_0.length c1_0, .int .i64 a0_2, .int .i64 a0_2, .int .i64 65535] rfl ar_ ?_; (with_reducible refine (pdu_some.calls kj3 _ _ l1_0 a0_2 a0_2 65535 t217 _ ?side1 ?side2 A27.out).mono ?_); (case side1 => exact sc_ (Kd.C_below HR1_0.out HB.out)); (case side2 => exact HC1_0.out); rintro e w' ⟨rfl, ⟨nd, rfl⟩⟩; refine ⟨_, rfl, ?_⟩))
        go_ret
        exact ⟨er_, bl2_ HB GE211 GE212⟩
       ·rw [if_neg c26] at H
        have c26b0 : (a0_0 == 23) = false := beq_eq_false_iff_ne.mpr c26
        have c26b1 : (a0_0 != 23) = true := bne_iff_ne.mpr c26
        obtain rfl := Option.some.inj H
        have hnb31 := NB212_211.out
        have hnc31 := NB211_212.out
        refine cz2_ BK212.out ?_; intro hcz32_0 hcz32_1 hfz32_0 hfz32_1
        go_wp2
        go_ret
        exact ⟨er_, bl2_ HB GE211 GE212⟩
 ·rw [if_neg c3] at H
  have c3b0 : (a1_1 == 0) = false := beq_eq_false_iff_ne.mpr c3
  have c3b1 : (a1_1 != 0) = true := bne_iff_ne.mpr c3
  replace H := Option.bind_eq_some_iff.mp H
  obtain ⟨t213, A330, H⟩ := H
  replace H : (if t213 = true then (some ((l1_0.length : Int) == 0)) else (some false)) = some r := H
  have A33 := Aside0.mk A330
  clear A330
  by_cases c34 : t213 = true
  ·subst c34
   have H1 : (some ((l1_0.length : Int) == 0)) = some r := by rw [if_pos rfl] at H; exact H
   clear H
   have H := H1
   clear H1
   obtain rfl := Option.some.inj H
   go_enter Try.func66, Try.ntmps66
   go_wp2_with (first | ((with_reducible refine gate_dst (N := 2) rfl ?_); (try (refine gate_guard (by rfl) ?_; dsimp only)); refine bx_ (N := 2) (cs := #[.int .i64 a0_0, .int .i64 a0_1, .int .i64 a0_2, .slice A0_3 l0_3.length c0_3, .int .i64 a0_4, .int .i64 a0_5, .int .i64 a0_6]) (t := 24) ?_; intro gb211 hg w35 hbox hb; have n0_ := Aside0.mk (below_step (bl0_ HB) hb); have n1_ := Aside0.mk (hbox); have n2_ := Aside0.mk ((by rw [hg]; exact (below_size (bl0_ HB)) : w.heap.size ≤ gb211)); have n3_ := Aside0.mk ((by rw [hg]; exact (below_size (bl0_ HB)) : w.heap.size ≤ gb211)); clear HB; have HB := n0_; have BK211 := n1_; have GW211 := n2_; have GE211 := n3_; clear n0_ n1_ n2_ n3_; clear hb hbox hg) | ((with_reducible refine gate_dst (N := 3) rfl ?_); (try (refine gate_guard (by rfl) ?_; dsimp only)); refine bx_ (N := 3) (cs := #[.slice A1_0 l1_0.length c1_0, .int .i64 a1_1]) (t := 30) ?_; intro gb212 hg w36 hbox hb; have n0_ := Aside0.mk (blk_below (g := gb211) (bk_ BK211) hb); have n1_ := Aside0.mk (below_step (bl1_ HB GE211) hb); have n2_ := Aside0.mk (hbox); have n3_ := Aside0.mk ((by rw [hg]; exact (below_size (bl1_ HB GE211)) : w.heap.size ≤ gb212)); have n4_ := Aside0.mk ((by rw [hg]; exact (below_size (bl1_ HB GE211)) : w.heap.size ≤ gb212)); have n5_ := Aside0.mk ((by rw [hg]; exact Nat.ne_of_lt (blk_lt (g := gb211) (bk_ BK211)) : gb211 ≠ gb212)); have n6_ := Aside0.mk ((by rw [hg]; exact Nat.ne_of_gt (blk_lt (g := gb211) (bk_ BK211)) : gb212 ≠ gb211)); clear BK211; clear HB; have BK211 := n0_; have HB := n1_; have BK212 := n2_; have GW212 := n3_; have GE212 := n4_; have NB211_212 := n5_; have NB212_211 := n6_; clear n0_ n1_ n2_ n3_ n4_ n5_ n6_; clear hb hbox hg; have hnb37 := NB212_211.out; have hnc37 := NB211_212.out; refine cz2_ BK212.out ?_; intro hcz38_0 hcz38_1 hfz38_0 hfz38_1) | ((with_reducible refine gate_callee (f := 49) rfl ?_); refine goesL_ (some 10) rfl rfl Try.func49 (by kernel_rfl) rfl #[.int .i64 a1_1, .int .i64 1, .int .i64 255] rfl ar_ ?_; (with_reducible refine (pdu_within.calls a1_1 1 255 true _ A33.out).mono ?_); rintro e w' ⟨rfl, ⟨nd, rfl⟩⟩; refine ⟨_, rfl, ?_⟩))
   go_ret
   exact ⟨er_, bl2_ HB GE211 GE212⟩
  ·replace c34 := Bool.eq_false_iff.mpr c34
   subst c34
   have H1 : (some false) = some r := by rw [if_neg (show ¬ (false = true) by decide)] at H; exact H
   clear H
   have H := H1
   clear H1
   obtain rfl := Option.some.inj H
   go_enter Try.func66, Try.ntmps66
   go_wp2_with (first | ((with_reducible refine gate_dst (N := 2) rfl ?_); (try (refine gate_guard (by rfl) ?_; dsimp only)); refine bx_ (N := 2) (cs := #[.int .i64 a0_0, .int .i64 a0_1, .int .i64 a0_2, .slice A0_3 l0_3.length c0_3, .int .i64 a0_4, .int .i64 a0_5, .int .i64 a0_6]) (t := 24) ?_; intro gb211 hg w39 hbox hb; have n0_ := Aside0.mk (below_step (bl0_ HB) hb); have n1_ := Aside0.mk (hbox); have n2_ := Aside0.mk ((by rw [hg]; exact (below_size (bl0_ HB)) : w.heap.size ≤ gb211)); have n3_ := Aside0.mk ((by rw [hg]; exact (below_size (bl0_ HB)) : w.heap.size ≤ gb211)); clear HB; have HB := n0_; have BK211 := n1_; have GW211 := n2_; have GE211 := n3_; clear n0_ n1_ n2_ n3_; clear hb hbox hg) | ((with_reducible refine gate_dst (N := 3) rfl ?_); (try (refine gate_guard (by rfl) ?_; dsimp only)); refine bx_ (N := 3) (cs := #[.slice A1_0 l1_0.length c1_0, .int .i64 a1_1]) (t := 30) ?_; intro gb212 hg w40 hbox hb; have n0_ := Aside0.mk (blk_below (g := gb211) (bk_ BK211) hb); have n1_ := Aside0.mk (below_step (bl1_ HB GE211) hb); have n2_ := Aside0.mk (hbox); have n3_ := Aside0.mk ((by rw [hg]; exact (below_size (bl1_ HB GE211)) : w.heap.size ≤ gb212)); have n4_ := Aside0.mk ((by rw [hg]; exact (below_size (bl1_ HB GE211)) : w.heap.size ≤ gb212)); have n5_ := Aside0.mk ((by rw [hg]; exact Nat.ne_of_lt (blk_lt (g := gb211) (bk_ BK211)) : gb211 ≠ gb212)); have n6_ := Aside0.mk ((by rw [hg]; exact Nat.ne_of_gt (blk_lt (g := gb211) (bk_ BK211)) : gb212 ≠ gb211)); clear BK211; clear HB; have BK211 := n0_; have HB := n1_; have BK212 := n2_; have GW212 := n3_; have GE212 := n4_; have NB211_212 := n5_; have NB212_211 := n6_; clear n0_ n1_ n2_ n3_ n4_ n5_ n6_; clear hb hbox hg; have hnb41 := NB212_211.out; have hnc41 := NB211_212.out; refine cz2_ BK212.out ?_; intro hcz42_0 hcz42_1 hfz42_0 hfz42_1) | ((with_reducible refine gate_callee (f := 49) rfl ?_); refine goesL_ (some 10) rfl rfl Try.func49 (by kernel_rfl) rfl #[.int .i64 a1_1, .int .i64 1, .int .i64 255] rfl ar_ ?_; (with_reducible refine (pdu_within.calls a1_1 1 255 false _ A33.out).mono ?_); rintro e w' ⟨rfl, ⟨nd, rfl⟩⟩; refine ⟨_, rfl, ?_⟩))
   go_ret
   exact ⟨er_, bl2_ HB GE211 GE212⟩
end Go.Proofs.Ytocicifgglkaeaa.PQ
end

section
namespace Go.Proofs.Ytocicifgglkaeaa.PQ
open Go.RowKit Go.Proofs.YtocicifgglkaeaaW.PrintWords Go.Proofs.YtocicifgglkaeaaW.PrintLast Go.Proofs.YtocicifgglkaeaaW.PrintMore
attribute [local go_sem] max2_int min2_int max_two min_two max_three min_three max_four min_four   
set_option linter.unusedVariables false
set_option linter.unusedSimpArgs false
open Go.Proofs.Ytocicifgglkaeaa.Ext Go.Proofs.Ytocicifgglkaeaa.PP Go.Proofs.Ytocicifgglkaeaa.ExtF
mutual
def pdu_AnswerBytes.j0 : Nat → Bool → Int → Int → Int → List Int → Int → Int → Int → List Int → Int → Option (List Int × Int)
 | 0, _, _, _, _, _, _, _, _, _, _ => none
 | k + 1, x15, x219000, x219001, x219002, x219003, x219004, x219005, x219006, x220000, x220001 => if x15 = true then (some (([] : List Int), 1)) else (if x220001 = 0 then ((some (([(x219000) % 256] : List Int) : List Int)).bind fun y225 => (if x219000 = 1 then (pdu_AnswerBytes.j1 k y225 x219000 (x219000 == 1) x219000 x219001 x219002 x219003 x219004 x219005 x219006 x220000 x220001) else (pdu_AnswerBytes.j1 k y225 x219000 (x219000 == 2) x219000 x219001 x219002 x219003 x219004 x219005 x219006 x220000 x220001))) else (some ((([Go.bits .or .u8 ((x219000) % 256) 128, (x220001) % 256] : List Int)), 0)))
def pdu_AnswerBytes.j1 : Nat → List Int → Int → Bool → Int → Int → Int → List Int → Int → Int → Int → List Int → Int → Option (List Int × Int)
 | 0, _, _, _, _, _, _, _, _, _, _, _, _ => none
 | k + 1, x6, x32, x33, x219000, x219001, x219002, x219003, x219004, x219005, x219006, x220000, x220001 => if x33 = true then ((pdu_packed.f k x220000).bind fun t228 => ((pdu_counted.f x6 t228).bind fun t231 => (some (t231, 0)))) else (if x32 = 3 then (pdu_AnswerBytes.j2 k x6 x32 (x32 == 3) x219000 x219001 x219002 x219003 x219004 x219005 x219006 x220000 x220001) else (if x32 = 4 then (pdu_AnswerBytes.j2 k x6 x32 (x32 == 4) x219000 x219001 x219002 x219003 x219004 x219005 x219006 x220000 x220001) else (pdu_AnswerBytes.j2 k x6 x32 (x32 == 23) x219000 x219001 x219002 x219003 x219004 x219005 x219006 x220000 x220001)))
def pdu_AnswerBytes.j2 : Nat → List Int → Int → Bool → Int → Int → Int → List Int → Int → Int → Int → List Int → Int → Option (List Int × Int)
 | 0, _, _, _, _, _, _, _, _, _, _, _, _ => none
 | k + 1, x6, x32, x41, x219000, x219001, x219002, x219003, x219004, x219005, x219006, x220000, x220001 => if x41 = true then ((pdu_lay.f ([] : List Int) x220000).bind fun t234 => ((pdu_counted.f x6 t234).bind fun t237 => (some (t237, 0)))) else (if x32 = 15 then (pdu_AnswerBytes.j3 k x6 (x32 == 15) x219000 x219001 x219002 x219003 x219004 x219005 x219006) else (pdu_AnswerBytes.j3 k x6 (x32 == 16) x219000 x219001 x219002 x219003 x219004 x219005 x219006))
def pdu_AnswerBytes.j3 : Nat → List Int → Bool → Int → Int → Int → List Int → Int → Int → Int → Option (List Int × Int)
 | 0, _, _, _, _, _, _, _, _, _ => none
 | k + 1, x6, x50, x219000, x219001, x219002, x219003, x219004, x219005, x219006 => if x50 = true then ((pdu_lay.f x6 (([x219001, x219002] : List Int))).bind fun t243 => (some (t243, 0))) else ((pdu_Bytes.f k x219000 x219001 x219002 x219003 x219004 x219005 x219006).bind fun bt246 => (some (bt246.1, bt246.2)))
end
def pdu_AnswerBytes.f (k : Nat) (a0_0 : Int) (a0_1 : Int) (a0_2 : Int) (l0_3 : List Int) (a0_4 : Int) (a0_5 : Int) (a0_6 : Int) (l1_0 : List Int) (a1_1 : Int) : Option (List Int × Int) := (pdu_Check.f k a0_0 a0_1 a0_2 l0_3 a0_4 a0_5 a0_6).bind fun t220 => (if t220 = 0 then ((pdu_answer.f k a0_0 a0_1 a0_2 l0_3 a0_4 a0_5 a0_6 l1_0 a1_1).bind fun t221 => (pdu_AnswerBytes.j0 k (!t221) a0_0 a0_1 a0_2 l0_3 a0_4 a0_5 a0_6 l1_0 a1_1)) else (pdu_AnswerBytes.j0 k true a0_0 a0_1 a0_2 l0_3 a0_4 a0_5 a0_6 l1_0 a1_1))
theorem pdu_AnswerBytes.mono_l : ∀ k, (∀ y0 y1 y2 y3 y4 y5 y6 y7 y8 y9, LeO (pdu_AnswerBytes.j0 k y0 y1 y2 y3 y4 y5 y6 y7 y8 y9) (pdu_AnswerBytes.j0 (k + 1) y0 y1 y2 y3 y4 y5 y6 y7 y8 y9)) ∧ (∀ y0 y1 y2 y3 y4 y5 y6 y7 y8 y9 y10 y11, LeO (pdu_AnswerBytes.j1 k y0 y1 y2 y3 y4 y5 y6 y7 y8 y9 y10 y11) (pdu_AnswerBytes.j1 (k + 1) y0 y1 y2 y3 y4 y5 y6 y7 y8 y9 y10 y11)) ∧ (∀ y0 y1 y2 y3 y4 y5 y6 y7 y8 y9 y10 y11, LeO (pdu_AnswerBytes.j2 k y0 y1 y2 y3 y4 y5 y6 y7 y8 y9 y10 y11) (pdu_AnswerBytes.j2 (k + 1) y0 y1 y2 y3 y4 y5 y6 y7 y8 y9 y10 y11)) ∧ (∀ y0 y1 y2 y3 y4 y5 y6 y7 y8, LeO (pdu_AnswerBytes.j3 k y0 y1 y2 y3 y4 y5 y6 y7 y8) (pdu_AnswerBytes.j3 (k + 1) y0 y1 y2 y3 y4 y5 y6 y7 y8))
 | 0 => ⟨fun _ _ _ _ _ _ _ _ _ _ r h => by simp [pdu_AnswerBytes.j0] at h, fun _ _ _ _ _ _ _ _ _ _ _ _ r h => by simp [pdu_AnswerBytes.j1] at h, fun _ _ _ _ _ _ _ _ _ _ _ _ r h => by simp [pdu_AnswerBytes.j2] at h, fun _ _ _ _ _ _ _ _ _ r h => by simp [pdu_AnswerBytes.j3] at h⟩
 | k + 1 => by
  obtain ⟨ih0, ih1, ih2, ih3⟩ := pdu_AnswerBytes.mono_l k
  refine ⟨?_, ?_, ?_, ?_⟩
  ·intro y0 y1 y2 y3 y4 y5 y6 y7 y8 y9
   unfold pdu_AnswerBytes.j0
   repeat' first
   | (with_reducible exact ih0 _ _ _ _ _ _ _ _ _ _)
   | (with_reducible exact ih1 _ _ _ _ _ _ _ _ _ _ _ _)
   | (with_reducible exact ih2 _ _ _ _ _ _ _ _ _ _ _ _)
   | (with_reducible exact ih3 _ _ _ _ _ _ _ _ _)
   | (with_reducible exact pdu_Bytes.mono _ _ _ _ _ _ _ _)
   | (with_reducible exact pdu_Check.mono _ _ _ _ _ _ _ _)
   | (with_reducible exact pdu_answer.mono _ _ _ _ _ _ _ _ _ _)
   | (with_reducible exact pdu_packed.mono _ _)
   | (with_reducible exact LeO.refl _)
   | (with_reducible exact LeO.none _)
   | (with_reducible refine LeO.ite ?_ ?_)
   | (with_reducible refine LeO.bind ?_ (fun _ => ?_))
   | exact ih0 _ _ _ _ _ _ _ _ _ _
   | exact ih1 _ _ _ _ _ _ _ _ _ _ _ _
   | exact ih2 _ _ _ _ _ _ _ _ _ _ _ _
   | exact ih3 _ _ _ _ _ _ _ _ _
   | exact pdu_Bytes.mono _ _ _ _ _ _ _ _
   | exact pdu_Check.mono _ _ _ _ _ _ _ _
   | exact pdu_answer.mono _ _ _ _ _ _ _ _ _ _
   | exact pdu_packed.mono _ _
   | exact LeO.none _
   | refine LeO.ite ?_ ?_
   | refine LeO.bind ?_ (fun _ => ?_)
  ·intro y0 y1 y2 y3 y4 y5 y6 y7 y8 y9 y10 y11
   unfold pdu_AnswerBytes.j1
   repeat' first
   | (with_reducible exact ih0 _ _ _ _ _ _ _ _ _ _)
   | (with_reducible exact ih1 _ _ _ _ _ _ _ _ _ _ _ _)
   | (with_reducible exact ih2 _ _ _ _ _ _ _ _ _ _ _ _)
   | (with_reducible exact ih3 _ _ _ _ _ _ _ _ _)
   | (with_reducible exact pdu_Bytes.mono _ _ _ _ _ _ _ _)
   | (with_reducible exact pdu_Check.mono _ _ _ _ _ _ _ _)
   | (with_reducible exact pdu_answer.mono _ _ _ _ _ _ _ _ _ _)
   | (with_reducible exact pdu_packed.mono _ _)
   | (with_reducible exact LeO.refl _)
   | (with_reducible exact LeO.none _)
   | (with_reducible refine LeO.ite ?_ ?_)
   | (with_reducible refine LeO.bind ?_ (fun _ => ?_))
   | exact ih0 _ _ _ _ _ _ _ _ _ _
   | exact ih1 _ _ _ _ _ _ _ _ _ _ _ _
   | exact ih2 _ _ _ _ _ _ _ _ _ _ _ _
   | exact ih3 _ _ _ _ _ _ _ _ _
   | exact pdu_Bytes.mono _ _ _ _ _ _ _ _
   | exact pdu_Check.mono _ _ _ _ _ _ _ _
   | exact pdu_answer.mono _ _ _ _ _ _ _ _ _ _
   | exact pdu_packed.mono _ _
   | exact LeO.none _
   | refine LeO.ite ?_ ?_
   | refine LeO.bind ?_ (fun _ => ?_)
  ·intro y0 y1 y2 y3 y4 y5 y6 y7 y8 y9 y10 y11
   unfold pdu_AnswerBytes.j2
   repeat' first
   | (with_reducible exact ih0 _ _ _ _ _ _ _ _ _ _)
   | (with_reducible exact ih1 _ _ _ _ _ _ _ _ _ _ _ _)
   | (with_reducible exact ih2 _ _ _ _ _ _ _ _ _ _ _ _)
   | (with_reducible exact ih3 _ _ _ _ _ _ _ _ _)
   | (with_reducible exact pdu_Bytes.mono _ _ _ _ _ _ _ _)
   | (with_reducible exact pdu_Check.mono _ _ _ _ _ _ _ _)
   | (with_reducible exact pdu_answer.mono _ _ _ _ _ _ _ _ _ _)
   | (with_reducible exact pdu_packed.mono _ _)
   | (with_reducible exact LeO.refl _)
   | (with_reducible exact LeO.none _)
   | (with_reducible refine LeO.ite ?_ ?_)
   | (with_reducible refine LeO.bind ?_ (fun _ => ?_))
   | exact ih0 _ _ _ _ _ _ _ _ _ _
   | exact ih1 _ _ _ _ _ _ _ _ _ _ _ _
   | exact ih2 _ _ _ _ _ _ _ _ _ _ _ _
   | exact ih3 _ _ _ _ _ _ _ _ _
   | exact pdu_Bytes.mono _ _ _ _ _ _ _ _
   | exact pdu_Check.mono _ _ _ _ _ _ _ _
   | exact pdu_answer.mono _ _ _ _ _ _ _ _ _ _
   | exact pdu_packed.mono _ _
   | exact LeO.none _
   | refine LeO.ite ?_ ?_
   | refine LeO.bind ?_ (fun _ => ?_)
  ·intro y0 y1 y2 y3 y4 y5 y6 y7 y8
   unfold pdu_AnswerBytes.j3
   repeat' first
   | (with_reducible exact ih0 _ _ _ _ _ _ _ _ _ _)
   | (with_reducible exact ih1 _ _ _ _ _ _ _ _ _ _ _ _)
   | (with_reducible exact ih2 _ _ _ _ _ _ _ _ _ _ _ _)
   | (with_reducible exact ih3 _ _ _ _ _ _ _ _ _)
   | (with_reducible exact pdu_Bytes.mono _ _ _ _ _ _ _ _)
   | (with_reducible exact pdu_Check.mono _ _ _ _ _ _ _ _)
   | (with_reducible exact pdu_answer.mono _ _ _ _ _ _ _ _ _ _)
   | (with_reducible exact pdu_packed.mono _ _)
   | (with_reducible exact LeO.refl _)
   | (with_reducible exact LeO.none _)
   | (with_reducible refine LeO.ite ?_ ?_)
   | (with_reducible refine LeO.bind ?_ (fun _ => ?_))
   | exact ih0 _ _ _ _ _ _ _ _ _ _
   | exact ih1 _ _ _ _ _ _ _ _ _ _ _ _
   | exact ih2 _ _ _ _ _ _ _ _ _ _ _ _
   | exact ih3 _ _ _ _ _ _ _ _ _
   | exact pdu_Bytes.mono _ _ _ _ _ _ _ _
   | exact pdu_Check.mono _ _ _ _ _ _ _ _
   | exact pdu_answer.mono _ _ _ _ _ _ _ _ _ _
   | exact pdu_packed.mono _ _
   | exact LeO.none _
   | refine LeO.ite ?_ ?_
   | refine LeO.bind ?_ (fun _ => ?_)
theorem pdu_AnswerBytes.mono : ∀ a0 a1 a2 a3 a4 a5 a6 a7 a8 k, LeO (pdu_AnswerBytes.f k a0 a1 a2 a3 a4 a5 a6 a7 a8) (pdu_AnswerBytes.f (k + 1) a0 a1 a2 a3 a4 a5 a6 a7 a8) := by
 intro a0 a1 a2 a3 a4 a5 a6 a7 a8 k
 obtain ⟨ih0, ih1, ih2, ih3⟩ := pdu_AnswerBytes.mono_l k
 unfold pdu_AnswerBytes.f
 repeat' first
  | (with_reducible exact ih0 _ _ _ _ _ _ _ _ _ _)
  | (with_reducible exact ih1 _ _ _ _ _ _ _ _ _ _ _ _)
  | (with_reducible exact ih2 _ _ _ _ _ _ _ _ _ _ _ _)
  | (with_reducible exact ih3 _ _ _ _ _ _ _ _ _)
  | (with_reducible exact pdu_Bytes.mono _ _ _ _ _ _ _ _)
  | (with_reducible exact pdu_Check.mono _ _ _ _ _ _ _ _)
  | (with_reducible exact pdu_answer.mono _ _ _ _ _ _ _ _ _ _)
  | (with_reducible exact pdu_packed.mono _ _)
  | (with_reducible exact LeO.refl _)
  | (with_reducible exact LeO.none _)
  | (with_reducible refine LeO.ite ?_ ?_)
  | (with_reducible refine LeO.bind ?_ (fun _ => ?_))
  | exact ih0 _ _ _ _ _ _ _ _ _ _
  | exact ih1 _ _ _ _ _ _ _ _ _ _ _ _
  | exact ih2 _ _ _ _ _ _ _ _ _ _ _ _
  | exact ih3 _ _ _ _ _ _ _ _ _
  | exact pdu_Bytes.mono _ _ _ _ _ _ _ _
  | exact pdu_Check.mono _ _ _ _ _ _ _ _
  | exact pdu_answer.mono _ _ _ _ _ _ _ _ _ _
  | exact pdu_packed.mono _ _
  | exact LeO.none _
  | refine LeO.ite ?_ ?_
  | refine LeO.bind ?_ (fun _ => ?_)
set_option maxHeartbeats 8000000 in
set_option maxRecDepth 100000 in
theorem pdu_AnswerBytes.calls (k : Nat) (a0_0 : Int) (a0_1 : Int) (a0_2 : Int) (A0_3 : Option Addr) (c0_3 : Nat) (l0_3 : List Int) (a0_4 : Int) (a0_5 : Int) (a0_6 : Int) (A1_0 : Option Addr) (c1_0 : Nat) (l1_0 : List Int) (a1_1 : Int) (r1 : List Int) (r2 : Int) (w : World) (hr0_3 : Kd.C (Kd.int .i64) w A0_3 l0_3.length l0_3) (hc0_3 : l0_3.length ≤ c0_3) (hr1_0 : Kd.C (Kd.int .i64) w A1_0 l1_0.length l1_0) (hc1_0 : l1_0.length ≤ c1_0) (h : pdu_AnswerBytes.f k a0_0 a0_1 a0_2 l0_3 a0_4 a0_5 a0_6 l1_0 a1_1 = some (r1, r2)) :
 Calls Try.prog 36 #[.agg #[.int .i64 a0_0, .int .i64 a0_1, .int .i64 a0_2, .slice A0_3 l0_3.length c0_3, .int .i64 a0_4, .int .i64 a0_5, .int .i64 a0_6], .agg #[.slice A1_0 l1_0.length c1_0, .int .i64 a1_1]] w fun e w' => ∃ v0_ : Value, e = .returned (.tuple #[v0_, .int .i64 r2]) ∧ Kd.R (Kd.int .u8) 5 w' w.heap.size (fun _ => True) v0_ r1 ∧ Below w.heap.size w w' := by
 have hu24 := Try.underlying24
 have hu30 := Try.underlying30
 have HR0_3 := Aside0.mk hr0_3
 have HC0_3 := Aside0.mk hc0_3
 clear hr0_3 hc0_3
 have HR1_0 := Aside0.mk hr1_0
 have HC1_0 := Aside0.mk hc1_0
 clear hr1_0 hc1_0
 have HB := Aside0.mk (Below.refl w.heap.size w)
 have H : ((pdu_Check.f k a0_0 a0_1 a0_2 l0_3 a0_4 a0_5 a0_6).bind fun t220 => (if t220 = 0 then ((pdu_answer.f k a0_0 a0_1 a0_2 l0_3 a0_4 a0_5 a0_6 l1_0 a1_1).bind fun t221 => (pdu_AnswerBytes.j0 k (!t221) a0_0 a0_1 a0_2 l0_3 a0_4 a0_5 a0_6 l1_0 a1_1)) else (pdu_AnswerBytes.j0 k true a0_0 a0_1 a0_2 l0_3 a0_4 a0_5 a0_6 l1_0 a1_1))) = some (r1, r2) := h
 clear h
 have HC3 := Aside0.mk H
 clear H
 go_enter Try.func36, Try.ntmps36
 go_upto_region 1 with (first | ((with_reducible refine gate_dst (N := 2) rfl ?_); refine bx_ (N := 2) (cs := #[.int .i64 a0_0, .int .i64 a0_1, .int .i64 a0_2, .slice A0_3 l0_3.length c0_3, .int .i64 a0_4, .int .i64 a0_5, .int .i64 a0_6]) (t := 24) ?_; intro gb218 hg w4 hbox hb; have n0_ := Aside0.mk (below_step (bl0_ HB) hb); have n1_ := Aside0.mk (hbox); have n2_ := Aside0.mk ((by rw [hg]; exact (below_size (bl0_ HB)) : w.heap.size ≤ gb218)); have n3_ := Aside0.mk ((by rw [hg]; exact (below_size (bl0_ HB)) : w.heap.size ≤ gb218)); clear HB; have HB := n0_; have BK218 := n1_; have GW218 := n2_; have GE218 := n3_; clear n0_ n1_ n2_ n3_; clear hb hbox hg) | ((with_reducible refine gate_dst (N := 3) rfl ?_); refine bx_ (N := 3) (cs := #[.slice A1_0 l1_0.length c1_0, .int .i64 a1_1]) (t := 30) ?_; intro gb219 hg w5 hbox hb; have n0_ := Aside0.mk (blk_below (g := gb218) (bk_ BK218) hb); have n1_ := Aside0.mk (below_step (bl1_ HB GE218) hb); have n2_ := Aside0.mk (hbox); have n3_ := Aside0.mk ((by rw [hg]; exact (below_size (bl1_ HB GE218)) : w.heap.size ≤ gb219)); have n4_ := Aside0.mk ((by rw [hg]; exact (below_size (bl1_ HB GE218)) : w.heap.size ≤ gb219)); have n5_ := Aside0.mk ((by rw [hg]; exact Nat.ne_of_lt (blk_lt (g := gb218) (bk_ BK218)) : gb218 ≠ gb219)); have n6_ := Aside0.mk ((by rw [hg]; exact Nat.ne_of_gt (blk_lt (g := gb218) (bk_ BK218)) : gb219 ≠ gb218)); clear BK218; clear HB; have BK218 := n0_; have HB := n1_; have BK219 := n2_; have GW219 := n3_; have GE219 := n4_; have NB218_219 := n5_; have NB219_218 := n6_; clear n0_ n1_ n2_ n3_ n4_ n5_ n6_; clear hb hbox hg))
 (try simp only [Act.put, List.setIfInBounds_toArray, List.set_cons_zero, List.set_cons_succ])
 go_cut [15] (fun v15 wc => ∃ (kq : Nat) (x15_2 : Bool), v15 = .bool x15_2 ∧ Aside0 (pdu_AnswerBytes.j0 kq x15_2 a0_0 a0_1 a0_2 l0_3 a0_4 a0_5 a0_6 l1_0 a1_1 = some (r1, r2)) ∧ Aside0 (kq ≤ k) ∧ Aside0 (wc.heap[gb218]? = some (.cells #[.int .i64 a0_0, .int .i64 a0_1, .int .i64 a0_2, (.slice A0_3 l0_3.length c0_3), .int .i64 a0_4, .int .i64 a0_5, .int .i64 a0_6] 24 (0, 0))) ∧ Aside0 (wc.heap[gb219]? = some (.cells #[(.slice A1_0 l1_0.length c1_0), .int .i64 a1_1] 30 (0, 0))) ∧ Aside0 (Below w.heap.size w wc))
 case first =>
  have H := HC3.out
  clear HC3
  replace H := Option.bind_eq_some_iff.mp H
  obtain ⟨t220, A60, H⟩ := H
  replace H : (if t220 = 0 then ((pdu_answer.f k a0_0 a0_1 a0_2 l0_3 a0_4 a0_5 a0_6 l1_0 a1_1).bind fun t221 => (pdu_AnswerBytes.j0 k (!t221) a0_0 a0_1 a0_2 l0_3 a0_4 a0_5 a0_6 l1_0 a1_1)) else (pdu_AnswerBytes.j0 k true a0_0 a0_1 a0_2 l0_3 a0_4 a0_5 a0_6 l1_0 a1_1)) = some (r1, r2) := H
  have A6 := Aside0.mk A60
  clear A60
  by_cases c7 : t220 = 0
  ·rw [if_pos c7] at H
   have c7b0 : (t220 == 0) = true := beq_iff_eq.mpr c7
   have c7b1 : (t220 != 0) = false := bne_eq_false_iff_eq.mpr c7
   clear c7
   (first | rw [c7b0] | (simp only [i64_w, i32_w]; rw [c7b0]) | skip)
   replace H := Option.bind_eq_some_iff.mp H
   obtain ⟨t221, A80, H⟩ := H
   replace H : (pdu_AnswerBytes.j0 k (!t221) a0_0 a0_1 a0_2 l0_3 a0_4 a0_5 a0_6 l1_0 a1_1) = some (r1, r2) := H
   have A8 := Aside0.mk A80
   clear A80
   have H' := Aside0.mk H
   clear H
   have hnb9 := NB218_219.out
   have hnc9 := NB219_218.out
   refine cz7_ BK218.out ?_; intro hcz10_0 hcz10_1 hcz10_2 hcz10_3 hcz10_4 hcz10_5 hcz10_6 hfz10_0 hfz10_1 hfz10_2 hfz10_3 hfz10_4 hfz10_5 hfz10_6
   go_wp2_with (first | ((with_reducible refine gate_callee (f := 29) rfl ?_); refine goesL_ (some 8) rfl rfl Try.func29 (by kernel_rfl) rfl #[.agg #[.int .i64 a0_0, .int .i64 a0_1, .int .i64 a0_2, .slice A0_3 l0_3.length c0_3, .int .i64 a0_4, .int .i64 a0_5, .int .i64 a0_6]] rfl ar_ ?_; (with_reducible refine (pdu_Check.calls k a0_0 a0_1 a0_2 _ _ l0_3 a0_4 a0_5 a0_6 t220 _ ?side1 ?side2 A6.out).mono ?_); (case side1 => exact sc_ (Kd.C_below HR0_3.out HB.out)); (case side2 => exact HC0_3.out); rintro e w11 ⟨rfl, hb⟩; refine ⟨_, rfl, ?_⟩; have n0_ := Aside0.mk (blk_below (g := gb218) (bk_ BK218) hb); have n1_ := Aside0.mk (blk_below (g := gb219) (bk_ BK219) hb); have n2_ := Aside0.mk (below_step (bl2_ HB GE218 GE219) hb); clear BK218; clear BK219; clear HB; have BK218 := n0_; have BK219 := n1_; have HB := n2_; clear n0_ n1_ n2_; (try clear hb); (try clear hb2); (try clear hk); (try clear hi); refine cz7_ BK218.out ?_; intro hcz12_0 hcz12_1 hcz12_2 hcz12_3 hcz12_4 hcz12_5 hcz12_6 hfz12_0 hfz12_1 hfz12_2 hfz12_3 hfz12_4 hfz12_5 hfz12_6; refine cz2_ BK219.out ?_; intro hcz13_0 hcz13_1 hfz13_0 hfz13_1) | (go_at_call 66; (with_reducible refine (pdu_answer.calls k a0_0 a0_1 a0_2 _ _ l0_3 a0_4 a0_5 a0_6 _ _ l1_0 a1_1 t221 _ ?side1 ?side2 ?side3 ?side4 A8.out).mono ?_); (case side1 => exact sc_ (Kd.C_below HR0_3.out HB.out)); (case side2 => exact HC0_3.out); (case side3 => exact sc_ (Kd.C_below HR1_0.out HB.out)); (case side4 => exact HC1_0.out); rintro e w14 ⟨rfl, hb⟩; have n0_ := Aside0.mk (blk_below (g := gb218) (bk_ BK218) hb); have n1_ := Aside0.mk (blk_below (g := gb219) (bk_ BK219) hb); have n2_ := Aside0.mk (below_step (bl2_ HB GE218 GE219) hb); clear BK218; clear BK219; clear HB; have BK218 := n0_; have BK219 := n1_; have HB := n2_; clear n0_ n1_ n2_; (try clear hb); (try clear hb2); (try clear hk); (try clear hi)))
   go_meet
   case rel => exact ⟨_, (!t221), (by first | rfl | (simp; done) | (simp [*]; done)), H', ⟨by first | omega | exact Nat.le_refl _⟩, ⟨bk_ BK218⟩, ⟨bk_ BK219⟩, ⟨bl2_ HB GE218 GE219⟩⟩
  ·rw [if_neg c7] at H
   have c7b0 : (t220 == 0) = false := beq_eq_false_iff_ne.mpr c7
   have c7b1 : (t220 != 0) = true := bne_iff_ne.mpr c7
   (first | rw [c7b0] | (simp only [i64_w, i32_w]; rw [c7b0]) | skip)
   have H' := Aside0.mk H
   clear H
   have hnb15 := NB218_219.out
   have hnc15 := NB219_218.out
   refine cz7_ BK218.out ?_; intro hcz16_0 hcz16_1 hcz16_2 hcz16_3 hcz16_4 hcz16_5 hcz16_6 hfz16_0 hfz16_1 hfz16_2 hfz16_3 hfz16_4 hfz16_5 hfz16_6
   go_wp2_with (first | ((with_reducible refine gate_callee (f := 29) rfl ?_); refine goesL_ (some 8) rfl rfl Try.func29 (by kernel_rfl) rfl #[.agg #[.int .i64 a0_0, .int .i64 a0_1, .int .i64 a0_2, .slice A0_3 l0_3.length c0_3, .int .i64 a0_4, .int .i64 a0_5, .int .i64 a0_6]] rfl ar_ ?_; (with_reducible refine (pdu_Check.calls k a0_0 a0_1 a0_2 _ _ l0_3 a0_4 a0_5 a0_6 t220 _ ?side1 ?side2 A6.out).mono ?_); (case side1 => exact sc_ (Kd.C_below HR0_3.out HB.out)); (case side2 => exact HC0_3.out); rintro e w17 ⟨rfl, hb⟩; refine ⟨_, rfl, ?_⟩; have n0_ := Aside0.mk (blk_below (g := gb218) (bk_ BK218) hb); have n1_ := Aside0.mk (blk_below (g := gb219) (bk_ BK219) hb); have n2_ := Aside0.mk (below_step (bl2_ HB GE218 GE219) hb); clear BK218; clear BK219; clear HB; have BK218 := n0_; have BK219 := n1_; have HB := n2_; clear n0_ n1_ n2_; (try clear hb); (try clear hb2); (try clear hk); (try clear hi)))
   go_meet
   case rel => exact ⟨_, (true), (by first | rfl | (simp; done) | (simp [*]; done)), H', ⟨by first | omega | exact Nat.le_refl _⟩, ⟨bk_ BK218⟩, ⟨bk_ BK219⟩, ⟨bl2_ HB GE218 GE219⟩⟩
 case rest =>
  clear HC3
  try clear c1
  try clear c2
  try clear p2
  try clear c3
  try clear c7
  try clear c7b0
  try clear c7b1
  try clear c9
  try clear c15
  try clear hcz10_0 hcz10_1 hcz10_2 hcz10_3 hcz10_4 hcz10_5 hcz10_6
  try clear hcz12_0 hcz12_1 hcz12_2 hcz12_3 hcz12_4 hcz12_5 hcz12_6
  try clear hcz13_0 hcz13_1
  try clear hcz16_0 hcz16_1 hcz16_2 hcz16_3 hcz16_4 hcz16_5 hcz16_6
  try clear hfz10_0 hfz10_1 hfz10_2 hfz10_3 hfz10_4 hfz10_5 hfz10_6
  try clear hfz12_0 hfz12_1 hfz12_2 hfz12_3 hfz12_4 hfz12_5 hfz12_6
  try clear hfz13_0 hfz13_1
  try clear hfz16_0 hfz16_1 hfz16_2 hfz16_3 hfz16_4 hfz16_5 hfz16_6
  obtain ⟨kq, x15_2, rfl, HA, HJ2, BK218, BK219, HB⟩ := hcut
  cases kq with
  | zero => exact absurd HA.out (by simp [pdu_AnswerBytes.j0])
  | succ kj2 =>
   have H := HA.out
   clear HA
   simp only [pdu_AnswerBytes.j0] at H
   by_cases c18 : x15_2 = true
   ·subst c18
    have H1 : (some (([] : List Int), 1)) = some (r1, r2) := by rw [if_pos rfl] at H; exact H
    clear H
    have H := H1
    clear H1
    simp only [Option.some.injEq, Prod.mk.injEq] at H
    obtain ⟨rfl, rfl⟩ := H
    go_wp2
    go_ret2
    exact ⟨_, er_, by first | exact Kd.R_nil _ _ _ _ _ | exact Kd.N_nil _ _ _ _ _ | exact Kd.V_nil _ _ _ _ _ | exact Kd.Q_nil _ _ _ _ _ | exact Kd.S_nil _ _ _ _ _, bl2_ HB GE218 GE219⟩
   ·replace c18 := Bool.eq_false_iff.mpr c18
    subst c18
    have H1 : (if a1_1 = 0 then ((some (([(a0_0) % 256] : List Int) : List Int)).bind fun y225 => (if a0_0 = 1 then (pdu_AnswerBytes.j1 kj2 y225 a0_0 (a0_0 == 1) a0_0 a0_1 a0_2 l0_3 a0_4 a0_5 a0_6 l1_0 a1_1) else (pdu_AnswerBytes.j1 kj2 y225 a0_0 (a0_0 == 2) a0_0 a0_1 a0_2 l0_3 a0_4 a0_5 a0_6 l1_0 a1_1))) else (some ((([Go.bits .or .u8 ((a0_0) % 256) 128, (a1_1) % 256] : List Int)), 0))) = some (r1, r2) := by rw [if_neg (show ¬ (false = true) by decide)] at H; exact H
    clear H
    have H := H1
    clear H1
    by_cases c19 : a1_1 = 0
    ·rw [if_pos c19] at H
     have c19b0 : (a1_1 == 0) = true := beq_iff_eq.mpr c19
     have c19b1 : (a1_1 != 0) = false := bne_eq_false_iff_eq.mpr c19
     clear c19
     obtain ⟨y225, hy225⟩ : ∃ y_ : List Int, y_ = (([(a0_0) % 256] : List Int)) := ⟨_, rfl⟩
     replace H : (if a0_0 = 1 then (pdu_AnswerBytes.j1 kj2 y225 a0_0 (a0_0 == 1) a0_0 a0_1 a0_2 l0_3 a0_4 a0_5 a0_6 l1_0 a1_1) else (pdu_AnswerBytes.j1 kj2 y225 a0_0 (a0_0 == 2) a0_0 a0_1 a0_2 l0_3 a0_4 a0_5 a0_6 l1_0 a1_1)) = some (r1, r2) := by first | (rw [hy225]; with_reducible exact H) | (have H2_ := (Option.bind_some _ _).symm.trans H; rw [hy225]; with_reducible exact H2_) | (have H2_ := (Option.bind_some _ _).symm.trans H; with_reducible exact H2_) | with_reducible exact H | (rw [hy225]; exact H) | exact H
     have Ny225 := Aside0.mk hy225
     clear hy225
     have HC20 := Aside0.mk H
     clear H
     have hnb21 := NB219_218.out
     have hnc21 := NB218_219.out
     refine cz2_ BK219.out ?_; intro hcz22_0 hcz22_1 hfz22_0 hfz22_1
     refine cz7_ BK218.out ?_; intro hcz23_0 hcz23_1 hcz23_2 hcz23_3 hcz23_4 hcz23_5 hcz23_6 hfz23_0 hfz23_1 hfz23_2 hfz23_3 hfz23_4 hfz23_5 hfz23_6
     go_upto_if 33 with (first | ((with_reducible refine gate_dst (N := 30) rfl ?_); refine Kd.R_lit (Kd.int .u8) _ 5 ?hg (N := 30) ?hd (xs := ([(a0_0) % 256] : List Int)) (inner := [.int .u8 ((a0_0) % 256)]) (ok := fun _ => True) (okp := fun _ => True) ?hr ?hp (fun _ hk => hk) trivial (Below.refl _ _) (Nat.le_refl _) (by simp) ?_; (case hd => rfl); (case hg => rfl); (case hr => first | (go_simp; done) | (go_simp; rfl)); (case hp => exact (Reps.one (show Kd.M (Kd.int .u8) _ _ _ ((a0_0) % 256) [.int .u8 ((a0_0) % 256)] from rfl) (Reps.none _ _))); intro v226 w24 ho25 hb hg_ hnew_; clear hg_ hnew_; (first | rw [← Ny225.out] at ho25 | (simp only [Int.reduceToNat] at ho25; rw [← Ny225.out] at ho25)); have n0_ := Aside0.mk (Kd.R_lower ho25 (below_size (bl2_ HB GE218 GE219))); have n1_ := Aside0.mk (blk_below (g := gb218) (bk_ BK218) hb); have n2_ := Aside0.mk (blk_below (g := gb219) (bk_ BK219) hb); have n3_ := Aside0.mk (below_step (bl2_ HB GE218 GE219) hb); clear BK218; clear BK219; clear HB; have HO227 := n0_; have BK218 := n1_; have BK219 := n2_; have HB := n3_; clear n0_ n1_ n2_ n3_; clear hb ho25; refine cz7_ BK218.out ?_; intro hcz26_0 hcz26_1 hcz26_2 hcz26_3 hcz26_4 hcz26_5 hcz26_6 hfz26_0 hfz26_1 hfz26_2 hfz26_3 hfz26_4 hfz26_5 hfz26_6))
     (try simp only [Act.put, List.setIfInBounds_toArray, List.set_cons_zero, List.set_cons_succ])
     go_cut [33] (fun v33 wc => ∃ (kq : Nat) (x33_19 : Bool), v33 = .bool x33_19 ∧ Aside0 (pdu_AnswerBytes.j1 kq y225 a0_0 x33_19 a0_0 a0_1 a0_2 l0_3 a0_4 a0_5 a0_6 l1_0 a1_1 = some (r1, r2)) ∧ Aside0 (kq ≤ kj2) ∧ Aside0 (Kd.R (Kd.int .u8) 5 wc w.heap.size (fun _ => True) v226 y225) ∧ Aside0 (wc.heap[gb218]? = some (.cells #[.int .i64 a0_0, .int .i64 a0_1, .int .i64 a0_2, (.slice A0_3 l0_3.length c0_3), .int .i64 a0_4, .int .i64 a0_5, .int .i64 a0_6] 24 (0, 0))) ∧ Aside0 (wc.heap[gb219]? = some (.cells #[(.slice A1_0 l1_0.length c1_0), .int .i64 a1_1] 30 (0, 0))) ∧ Aside0 (Below w.heap.size w wc))
     case first =>
      have H := HC20.out
      clear HC20
      by_cases c27 : a0_0 = 1
      ·rw [if_pos c27] at H
       have c27b0 : (a0_0 == 1) = true := beq_iff_eq.mpr c27
       have c27b1 : (a0_0 != 1) = false := bne_eq_false_iff_eq.mpr c27
       clear c27
       (first | rw [c27b0] | (simp only [i64_w, i32_w]; rw [c27b0]) | skip)
       have H' := Aside0.mk H
       clear H
       go_wp2
       go_meet
       case rel => exact ⟨_, ((a0_0 == 1)), (by first | rfl | (simp; done) | (simp [*]; done)), H', ⟨by have := HJ2.out; first | omega | exact Nat.le_refl _⟩, ⟨kr_ HO227⟩, ⟨bk_ BK218⟩, ⟨bk_ BK219⟩, ⟨bl2_ HB GE218 GE219⟩⟩
      ·rw [if_neg c27] at H
       have c27b0 : (a0_0 == 1) = false := beq_eq_false_iff_ne.mpr c27
       have c27b1 : (a0_0 != 1) = true := bne_iff_ne.mpr c27
       (first | rw [c27b0] | (simp only [i64_w, i32_w]; rw [c27b0]) | skip)
       have H' := Aside0.mk H
       clear H
       go_wp2
       go_meet
       case rel => exact ⟨_, ((a0_0 == 2)), (by first | rfl | (simp; done) | (simp [*]; done)), H', ⟨by have := HJ2.out; first | omega | exact Nat.le_refl _⟩, ⟨kr_ HO227⟩, ⟨bk_ BK218⟩, ⟨bk_ BK219⟩, ⟨bl2_ HB GE218 GE219⟩⟩
     case rest =>
      clear HC20
      try clear c1
      try clear c2
      try clear p2
      try clear c3
      try clear c7
      try clear c7b0
      try clear c7b1
      try clear c9
      try clear c15
      try clear c18
      try clear c19
      try clear c19b0
      try clear c19b1
      try clear c21
      try clear c27
      try clear c27b0
      try clear c27b1
      try clear hcz10_0 hcz10_1 hcz10_2 hcz10_3 hcz10_4 hcz10_5 hcz10_6
      try clear hcz12_0 hcz12_1 hcz12_2 hcz12_3 hcz12_4 hcz12_5 hcz12_6
      try clear hcz13_0 hcz13_1
      try clear hcz16_0 hcz16_1 hcz16_2 hcz16_3 hcz16_4 hcz16_5 hcz16_6
      try clear hcz22_0 hcz22_1
      try clear hcz23_0 hcz23_1 hcz23_2 hcz23_3 hcz23_4 hcz23_5 hcz23_6
      try clear hcz26_0 hcz26_1 hcz26_2 hcz26_3 hcz26_4 hcz26_5 hcz26_6
      try clear hfz10_0 hfz10_1 hfz10_2 hfz10_3 hfz10_4 hfz10_5 hfz10_6
      try clear hfz12_0 hfz12_1 hfz12_2 hfz12_3 hfz12_4 hfz12_5 hfz12_6
      try clear hfz13_0 hfz13_1
      try clear hfz16_0 hfz16_1 hfz16_2 hfz16_3 hfz16_4 hfz16_5 hfz16_6
      try clear hfz22_0 hfz22_1
      try clear hfz23_0 hfz23_1 hfz23_2 hfz23_3 hfz23_4 hfz23_5 hfz23_6
      try clear hfz26_0 hfz26_1 hfz26_2 hfz26_3 hfz26_4 hfz26_5 hfz26_6
      try clear p2
      obtain ⟨kq, x33_19, rfl, HA, HJ19, HO_6, BK218, BK219, HB⟩ := hcut
      cases kq with
      | zero => exact absurd HA.out (by simp [pdu_AnswerBytes.j1])
      | succ kj19 =>
       have H := HA.out
       clear HA
       simp only [pdu_AnswerBytes.j1] at H
       by_cases c28 : x33_19 = true
       ·subst c28
        have H1 : ((pdu_packed.f kj19 l1_0).bind fun t228 => ((pdu_counted.f y225 t228).bind fun t231 => (some (t231, 0)))) = some (r1, r2) := by rw [if_pos rfl] at H; exact H
        clear H
        have H := H1
        clear H1
        replace H := Option.bind_eq_some_iff.mp H
        obtain ⟨t228, A290, H⟩ := H
        replace H : ((pdu_counted.f y225 t228).bind fun t231 => (some (t231, 0))) = some (r1, r2) := H
        have A29 := Aside0.mk A290
        clear A290
        replace H := Option.bind_eq_some_iff.mp H
        obtain ⟨t231, A300, H⟩ := H
        replace H : (some (t231, 0)) = some (r1, r2) := H
        have A30 := Aside0.mk A300
        clear A300
        simp only [Option.some.injEq, Prod.mk.injEq] at H
        obtain ⟨rfl, rfl⟩ := H
        have hnb31 := NB219_218.out
        have hnc31 := NB218_219.out
        refine cz2_ BK219.out ?_; intro hcz32_0 hcz32_1 hfz32_0 hfz32_1
        go_wp2_with (first | ((with_reducible refine gate_callee (f := 55) rfl ?_); refine goesL_ (some 39) rfl rfl Try.func55 (by kernel_rfl) rfl #[.slice A1_0 l1_0.length c1_0] rfl ar_ ?_; (with_reducible refine (pdu_packed.calls kj19 _ _ l1_0 t228 _ ?side1 ?side2 A29.out).mono ?_); (case side1 => exact sc_ (Kd.C_below HR1_0.out HB.out)); (case side2 => exact HC1_0.out); rintro e w33 ⟨v229, rfl, ho0, hb⟩; refine ⟨_, rfl, ?_⟩; have n0_ := Aside0.mk (Kd.R_elder' (kr_ HO_6) (Kd.R_base ho0) hb); have n1_ := Aside0.mk (Kd.R_lower (Kd.R_new' ho0 (Kd.R_lt (kr_ HO_6))) (below_size (bl2_ HB GE218 GE219))); have n2_ := Aside0.mk (blk_below (g := gb218) (bk_ BK218) hb); have n3_ := Aside0.mk (blk_below (g := gb219) (bk_ BK219) hb); have n4_ := Aside0.mk (below_step (bl2_ HB GE218 GE219) hb); clear HO_6; clear BK218; clear BK219; clear HB; have HO_6 := n0_; have HO230 := n1_; have BK218 := n2_; have BK219 := n3_; have HB := n4_; clear n0_ n1_ n2_ n3_ n4_; (try clear hb); (try clear hb2); (try clear hk); (try clear hi); (try clear ho0); obtain ⟨Ao34, co34, eo34⟩ := Kd.R_slice HO_6.out; subst eo34; obtain ⟨Ao35, co35, eo35⟩ := Kd.R_slice HO230.out; subst eo35) | ((with_reducible refine gate_callee (f := 54) rfl ?_); refine goesL_ (some 40) rfl rfl Try.func54 (by kernel_rfl) rfl #[.slice Ao34 y225.length co34, .slice Ao35 t228.length co35] rfl ar_ ?_; (with_reducible refine (pdu_counted.calls (fun k_ => some k_ = (.slice Ao34 y225.length co34 : Value).ownBlock) (.slice Ao34 y225.length co34) y225 _ _ t228 t231 w _ ?side1 ?side2 ?side3 ?side4 A30.out).mono ?_); (case side1 => repeat (first | (with_reducible first | exact HB.out | apply below_alloc | apply pw_below_drewN | apply below_drew1 | refine below_set ?_ GE218.out | refine below_set ?_ GE219.out) | exact HB.out)); (case side2 => exact Kd.R_tight rfl HO_6.out); (case side3 => exact Kd.C_kept_own (HO230.out) (fun k_ hk_ hs_ => (hk_.2) hs_)); (case side4 => exact (Kd.R_reads' HO230.out).2.1); rintro e w36 ⟨v232, rfl, ho0, hb, hkp⟩; refine ⟨_, rfl, ?_⟩; have n0_ := Aside0.mk (blk_kept (bk_ BK218) hkp (fun hs_ => (fun e_ => (Kd.R_ne HO_6.out BK218.out (by decide)) e_) hs_)); have n1_ := Aside0.mk (blk_kept (bk_ BK219) hkp (fun hs_ => (fun e_ => (Kd.R_ne HO_6.out BK219.out (by decide)) e_) hs_)); have n2_ := Aside0.mk (Kd.R_mono (ok' := fun k_ => some k_ ≠ (v232 : Value).ownBlock) (Kd.R_keptB (HO230.out) hkp (fun k_ hk_ hs_ => (hk_.2) hs_)) (fun k_ hk_ => fun e_ => Or.elim (ho0.1 k_ e_.symm) (fun hs_ => hk_.2.1 hs_) (fun hn_ => Nat.not_le.2 hk_.2.2 hn_))); have n3_ := Aside0.mk (Kd.R_mono (ok' := fun k_ => some k_ ≠ (.slice Ao35 t228.length co35 : Value).ownBlock) ho0 (fun k_ hk_ => Or.elim hk_ (fun hs_ => fun e_ => (((HO230.out).1 k_ e_.symm).2) hs_) (fun hn_ => (Kd.fresh' (Kd.R_lt (kr_ HO230)) k_ hn_)))); have n4_ := Aside0.mk (hb); clear BK218; clear BK219; clear HO230; clear HB; clear HO_6; have BK218 := n0_; have BK219 := n1_; have HO230 := n2_; have HO233 := n3_; have HB := n4_; clear n0_ n1_ n2_ n3_ n4_; (try clear hb); (try clear hkp); (try clear ho0)))
        go_ret2
        exact ⟨_, er_, by (with_reducible repeat (first | apply Kd.R_alloc | apply Kd.R_drewN | apply Kd.R_drew)); exact Kd.R_mono HO233.out (fun _ hk => trivial), bl2_ HB GE218 GE219⟩
       ·replace c28 := Bool.eq_false_iff.mpr c28
        subst c28
        have H1 : (if a0_0 = 3 then (pdu_AnswerBytes.j2 kj19 y225 a0_0 (a0_0 == 3) a0_0 a0_1 a0_2 l0_3 a0_4 a0_5 a0_6 l1_0 a1_1) else (if a0_0 = 4 then (pdu_AnswerBytes.j2 kj19 y225 a0_0 (a0_0 == 4) a0_0 a0_1 a0_2 l0_3 a0_4 a0_5 a0_6 l1_0 a1_1) else (pdu_AnswerBytes.j2 kj19 y225 a0_0 (a0_0 == 23) a0_0 a0_1 a0_2 l0_3 a0_4 a0_5 a0_6 l1_0 a1_1))) = some (r1, r2) := by rw [if_neg (show ¬ (false = true) by decide)] at H; exact H
        clear H
        have H := H1
        clear H1
        have HC37 := Aside0.mk H
        clear H
        go_upto_if 41 with (fail)
        go_cut [41] (fun v41 wc => ∃ (kq : Nat) (x41_36 : Bool), v41 = .bool x41_36 ∧ Aside0 (pdu_AnswerBytes.j2 kq y225 a0_0 x41_36 a0_0 a0_1 a0_2 l0_3 a0_4 a0_5 a0_6 l1_0 a1_1 = some (r1, r2)) ∧ Aside0 (kq ≤ kj19) ∧ Aside0 (Kd.R (Kd.int .u8) 5 wc w.heap.size (fun _ => True) v226 y225) ∧ Aside0 (wc.heap[gb218]? = some (.cells #[.int .i64 a0_0, .int .i64 a0_1, .int .i64 a0_2, (.slice A0_3 l0_3.length c0_3), .int .i64 a0_4, .int .i64 a0_5, .int .i64 a0_6] 24 (0, 0))) ∧ Aside0 (wc.heap[gb219]? = some (.cells #[(.slice A1_0 l1_0.length c1_0), .int .i64 a1_1] 30 (0, 0))) ∧ Aside0 (Below w.heap.size w wc))
        case first =>
         have H := HC37.out
         clear HC37
         by_cases c38 : a0_0 = 3
         ·rw [if_pos c38] at H
          have c38b0 : (a0_0 == 3) = true := beq_iff_eq.mpr c38
          have c38b1 : (a0_0 != 3) = false := bne_eq_false_iff_eq.mpr c38
          clear c38
          (first | rw [c38b0] | (simp only [i64_w, i32_w]; rw [c38b0]) | skip)
          have H' := Aside0.mk H
          clear H
          go_wp2
          go_meet
          case rel => exact ⟨_, ((a0_0 == 3)), (by first | rfl | (simp; done) | (simp [*]; done)), H', ⟨by have := HJ2.out; have := HJ19.out; first | omega | exact Nat.le_refl _⟩, ⟨kr_ HO_6⟩, ⟨bk_ BK218⟩, ⟨bk_ BK219⟩, ⟨bl2_ HB GE218 GE219⟩⟩
         ·rw [if_neg c38] at H
          have c38b0 : (a0_0 == 3) = false := beq_eq_false_iff_ne.mpr c38
          have c38b1 : (a0_0 != 3) = true := bne_iff_ne.mpr c38
          (first | rw [c38b0] | (simp only [i64_w, i32_w]; rw [c38b0]) | skip)
          by_cases c39 : a0_0 = 4
          ·rw [if_pos c39] at H
           have c39b0 : (a0_0 == 4) = true := beq_iff_eq.mpr c39
           have c39b1 : (a0_0 != 4) = false := bne_eq_false_iff_eq.mpr c39
           clear c39
           have H' := Aside0.mk H
           clear H
           go_wp2
           go_meet
           case rel => exact ⟨_, ((a0_0 == 4)), (by first | rfl | (simp; done) | (simp [*]; done)), H', ⟨by have := HJ2.out; have := HJ19.out; first | omega | exact Nat.le_refl _⟩, ⟨kr_ HO_6⟩, ⟨bk_ BK218⟩, ⟨bk_ BK219⟩, ⟨bl2_ HB GE218 GE219⟩⟩
          ·rw [if_neg c39] at H
           have c39b0 : (a0_0 == 4) = false := beq_eq_false_iff_ne.mpr c39
           have c39b1 : (a0_0 != 4) = true := bne_iff_ne.mpr c39
           have H' := Aside0.mk H
           clear H
           go_wp2
           go_meet
           case rel => exact ⟨_, ((a0_0 == 23)), (by first | rfl | (simp; done) | (simp [*]; done)), H', ⟨by have := HJ2.out; have := HJ19.out; first | omega | exact Nat.le_refl _⟩, ⟨kr_ HO_6⟩, ⟨bk_ BK218⟩, ⟨bk_ BK219⟩, ⟨bl2_ HB GE218 GE219⟩⟩
        case rest =>
         clear HC37
         try clear c1
         try clear c2
         try clear p2
         try clear c3
         try clear c5
         try clear c7
         try clear c7b0
         try clear c7b1
         try clear c9
         try clear c15
         try clear c18
         try clear c19
         try clear c19b0
         try clear c19b1
         try clear c21
         try clear c27
         try clear c27b0
         try clear c27b1
         try clear c28
         try clear c29
         try clear c31
         try clear c36
         try clear c38
         try clear c38b0
         try clear c38b1
         try clear c39
         try clear c39b0
         try clear c39b1
         try clear hcz10_0 hcz10_1 hcz10_2 hcz10_3 hcz10_4 hcz10_5 hcz10_6
         try clear hcz12_0 hcz12_1 hcz12_2 hcz12_3 hcz12_4 hcz12_5 hcz12_6
         try clear hcz13_0 hcz13_1
         try clear hcz16_0 hcz16_1 hcz16_2 hcz16_3 hcz16_4 hcz16_5 hcz16_6
         try clear hcz22_0 hcz22_1
         try clear hcz23_0 hcz23_1 hcz23_2 hcz23_3 hcz23_4 hcz23_5 hcz23_6
         try clear hcz26_0 hcz26_1 hcz26_2 hcz26_3 hcz26_4 hcz26_5 hcz26_6
         try clear hcz32_0 hcz32_1
         try clear hfz10_0 hfz10_1 hfz10_2 hfz10_3 hfz10_4 hfz10_5 hfz10_6
         try clear hfz12_0 hfz12_1 hfz12_2 hfz12_3 hfz12_4 hfz12_5 hfz12_6
         try clear hfz13_0 hfz13_1
         try clear hfz16_0 hfz16_1 hfz16_2 hfz16_3 hfz16_4 hfz16_5 hfz16_6
         try clear hfz22_0 hfz22_1
         try clear hfz23_0 hfz23_1 hfz23_2 hfz23_3 hfz23_4 hfz23_5 hfz23_6
         try clear hfz26_0 hfz26_1 hfz26_2 hfz26_3 hfz26_4 hfz26_5 hfz26_6
         try clear hfz32_0 hfz32_1
         try clear p2
         obtain ⟨kq, x41_36, rfl, HA, HJ36, HO_6, BK218, BK219, HB⟩ := hcut
         cases kq with
         | zero => exact absurd HA.out (by simp [pdu_AnswerBytes.j2])
         | succ kj36 =>
          have H := HA.out
          clear HA
          simp only [pdu_AnswerBytes.j2] at H
          by_cases c40 : x41_36 = true
          ·subst c40
           have H1 : ((pdu_lay.f ([] : List Int) l1_0).bind fun t234 => ((pdu_counted.f y225 t234).bind fun t237 => (some (t237, 0)))) = some (r1, r2) := by rw [if_pos rfl] at H; exact H
           clear H
           have H := H1
           clear H1
           replace H := Option.bind_eq_some_iff.mp H
           obtain ⟨t234, A410, H⟩ := H
           replace H : ((pdu_counted.f y225 t234).bind fun t237 => (some (t237, 0))) = some (r1, r2) := H
           have A41 := Aside0.mk A410
           clear A410
           replace H := Option.bind_eq_some_iff.mp H
           obtain ⟨t237, A420, H⟩ := H
           replace H : (some (t237, 0)) = some (r1, r2) := H
           have A42 := Aside0.mk A420
           clear A420
           simp only [Option.some.injEq, Prod.mk.injEq] at H
           obtain ⟨rfl, rfl⟩ := H
           have hnb43 := NB219_218.out
           have hnc43 := NB218_219.out
           refine cz2_ BK219.out ?_; intro hcz44_0 hcz44_1 hfz44_0 hfz44_1
           go_wp2_with (first | ((with_reducible refine gate_callee (f := 53) rfl ?_); refine goesL_ (some 48) rfl rfl Try.func53 (by kernel_rfl) rfl #[.slice none 0 0, .slice A1_0 l1_0.length c1_0] rfl ar_ ?_; (refine (pdu_lay.calls _ _ ([] : List Int) _ _ l1_0 t234 _ ?side1 ?side2 ?side3 ?side4 A41.out).mono ?_); (case side1 => exact Kd.C_nil _ _); (case side2 => exact Nat.le_refl _); (case side3 => exact sc_ (Kd.C_below HR1_0.out HB.out)); (case side4 => exact HC1_0.out); rintro e w45 ⟨v235, rfl, ho0, hb⟩; refine ⟨_, rfl, ?_⟩; have n0_ := Aside0.mk (Kd.R_elder' (kr_ HO_6) (Kd.R_base ho0) hb); have n1_ := Aside0.mk (Kd.R_lower (Kd.R_new' ho0 (Kd.R_lt (kr_ HO_6))) (below_size (bl2_ HB GE218 GE219))); have n2_ := Aside0.mk (blk_below (g := gb218) (bk_ BK218) hb); have n3_ := Aside0.mk (blk_below (g := gb219) (bk_ BK219) hb); have n4_ := Aside0.mk (below_step (bl2_ HB GE218 GE219) hb); clear HO_6; clear BK218; clear BK219; clear HB; have HO_6 := n0_; have HO236 := n1_; have BK218 := n2_; have BK219 := n3_; have HB := n4_; clear n0_ n1_ n2_ n3_ n4_; (try clear hb); (try clear hb2); (try clear hk); (try clear hi); (try clear ho0); obtain ⟨Ao46, co46, eo46⟩ := Kd.R_slice HO_6.out; subst eo46; obtain ⟨Ao47, co47, eo47⟩ := Kd.R_slice HO236.out; subst eo47) | ((with_reducible refine gate_callee (f := 54) rfl ?_); refine goesL_ (some 49) rfl rfl Try.func54 (by kernel_rfl) rfl #[.slice Ao46 y225.length co46, .slice Ao47 t234.length co47] rfl ar_ ?_; (with_reducible refine (pdu_counted.calls (fun k_ => some k_ = (.slice Ao46 y225.length co46 : Value).ownBlock) (.slice Ao46 y225.length co46) y225 _ _ t234 t237 w _ ?side1 ?side2 ?side3 ?side4 A42.out).mono ?_); (case side1 => repeat (first | (with_reducible first | exact HB.out | apply below_alloc | apply pw_below_drewN | apply below_drew1 | refine below_set ?_ GE218.out | refine below_set ?_ GE219.out) | exact HB.out)); (case side2 => exact Kd.R_tight rfl HO_6.out); (case side3 => exact Kd.C_kept_own (HO236.out) (fun k_ hk_ hs_ => (hk_.2) hs_)); (case side4 => exact (Kd.R_reads' HO236.out).2.1); rintro e w48 ⟨v238, rfl, ho0, hb, hkp⟩; refine ⟨_, rfl, ?_⟩; have n0_ := Aside0.mk (blk_kept (bk_ BK218) hkp (fun hs_ => (fun e_ => (Kd.R_ne HO_6.out BK218.out (by decide)) e_) hs_)); have n1_ := Aside0.mk (blk_kept (bk_ BK219) hkp (fun hs_ => (fun e_ => (Kd.R_ne HO_6.out BK219.out (by decide)) e_) hs_)); have n2_ := Aside0.mk (Kd.R_mono (ok' := fun k_ => some k_ ≠ (v238 : Value).ownBlock) (Kd.R_keptB (HO236.out) hkp (fun k_ hk_ hs_ => (hk_.2) hs_)) (fun k_ hk_ => fun e_ => Or.elim (ho0.1 k_ e_.symm) (fun hs_ => hk_.2.1 hs_) (fun hn_ => Nat.not_le.2 hk_.2.2 hn_))); have n3_ := Aside0.mk (Kd.R_mono (ok' := fun k_ => some k_ ≠ (.slice Ao47 t234.length co47 : Value).ownBlock) ho0 (fun k_ hk_ => Or.elim hk_ (fun hs_ => fun e_ => (((HO236.out).1 k_ e_.symm).2) hs_) (fun hn_ => (Kd.fresh' (Kd.R_lt (kr_ HO236)) k_ hn_)))); have n4_ := Aside0.mk (hb); clear BK218; clear BK219; clear HO236; clear HB; clear HO_6; have BK218 := n0_; have BK219 := n1_; have HO236 := n2_; have HO239 := n3_; have HB := n4_; clear n0_ n1_ n2_ n3_ n4_; (try clear hb); (try clear hkp); (try clear ho0)))
           go_ret2
           exact ⟨_, er_, by (with_reducible repeat (first | apply Kd.R_alloc | apply Kd.R_drewN | apply Kd.R_drew)); exact Kd.R_mono HO239.out (fun _ hk => trivial), bl2_ HB GE218 GE219⟩
          ·replace c40 := Bool.eq_false_iff.mpr c40
           subst c40
           have H1 : (if a0_0 = 15 then (pdu_AnswerBytes.j3 kj36 y225 (a0_0 == 15) a0_0 a0_1 a0_2 l0_3 a0_4 a0_5 a0_6) else (pdu_AnswerBytes.j3 kj36 y225 (a0_0 == 16) a0_0 a0_1 a0_2 l0_3 a0_4 a0_5 a0_6)) = some (r1, r2) := by rw [if_neg (show ¬ (false = true) by decide)] at H; exact H
           clear H
           have H := H1
           clear H1
           have HC49 := Aside0.mk H
           clear H
           go_upto_if 50 with (fail)
           go_cut [50] (fun v50 wc => ∃ (kq : Nat) (x50_48 : Bool), v50 = .bool x50_48 ∧ Aside0 (pdu_AnswerBytes.j3 kq y225 x50_48 a0_0 a0_1 a0_2 l0_3 a0_4 a0_5 a0_6 = some (r1, r2)) ∧ Aside0 (kq ≤ kj36) ∧ Aside0 (Kd.R (Kd.int .u8) 5 wc w.heap.size (fun _ => True) v226 y225) ∧ Aside0 (wc.heap[gb218]? = some (.cells #[.int .i64 a0_0, .int .i64 a0_1, .int .i64 a0_2, (.slice A0_3 l0_3.length c0_3), .int .i64 a0_4, .int .i64 a0_5, .int .i64 a0_6] 24 (0, 0))) ∧ Aside0 (wc.heap[gb219]? = some (.cells #[(.slice A1_0 l1_0.length c1_0), .int .i64 a1_1] 30 (0, 0))) ∧ Aside0 (Below w.heap.size w wc))
           case first =>
            have H := HC49.out
            clear HC49
            by_cases c50 : a0_0 = 15
            ·rw [if_pos c50] at H
             have c50b0 : (a0_0 == 15) = true := beq_iff_eq.mpr c50
             have c50b1 : (a0_0 != 15) = false := bne_eq_false_iff_eq.mpr c50
             clear c50
             (first | rw [c50b0] | (simp only [i64_w, i32_w]; rw [c50b0]) | skip)
             have H' := Aside0.mk H
             clear H
             go_wp2
             go_meet
             case rel => exact ⟨_, ((a0_0 == 15)), (by first | rfl | (simp; done) | (simp [*]; done)), H', ⟨by have := HJ2.out; have := HJ19.out; have := HJ36.out; first | omega | exact Nat.le_refl _⟩, ⟨kr_ HO_6⟩, ⟨bk_ BK218⟩, ⟨bk_ BK219⟩, ⟨bl2_ HB GE218 GE219⟩⟩
            ·rw [if_neg c50] at H
             have c50b0 : (a0_0 == 15) = false := beq_eq_false_iff_ne.mpr c50
             have c50b1 : (a0_0 != 15) = true := bne_iff_ne.mpr c50
             (first | rw [c50b0] | (simp only [i64_w, i32_w]; rw [c50b0]) | skip)
             have H' := Aside0.mk H
             clear H
             go_wp2
             go_meet
             case rel => exact ⟨_, ((a0_0 == 16)), (by first | rfl | (simp; done) | (simp [*]; done)), H', ⟨by have := HJ2.out; have := HJ19.out; have := HJ36.out; first | omega | exact Nat.le_refl _⟩, ⟨kr_ HO_6⟩, ⟨bk_ BK218⟩, ⟨bk_ BK219⟩, ⟨bl2_ HB GE218 GE219⟩⟩
           case rest =>
            clear HC49
            try clear c1
            try clear c2
            try clear p2
            try clear c3
            try clear c4
            try clear c5
            try clear c7
            try clear c7b0
            try clear c7b1
            try clear c9
            try clear c15
            try clear c18
            try clear c19
            try clear c19b0
            try clear c19b1
            try clear c21
            try clear c27
            try clear c27b0
            try clear c27b1
            try clear c28
            try clear c29
            try clear c31
            try clear c36
            try clear c38
            try clear c38b0
            try clear c38b1
            try clear c39
            try clear c39b0
            try clear c39b1
            try clear c40
            try clear c43
            try clear c50
            try clear c50b0
            try clear c50b1
            try clear hcz10_0 hcz10_1 hcz10_2 hcz10_3 hcz10_4 hcz10_5 hcz10_6
            try clear hcz12_0 hcz12_1 hcz12_2 hcz12_3 hcz12_4 hcz12_5 hcz12_6
            try clear hcz13_0 hcz13_1
            try clear hcz16_0 hcz16_1 hcz16_2 hcz16_3 hcz16_4 hcz16_5 hcz16_6
            try clear hcz22_0 hcz22_1
            try clear hcz23_0 hcz23_1 hcz23_2 hcz23_3 hcz23_4 hcz23_5 hcz23_6
            try clear hcz26_0 hcz26_1 hcz26_2 hcz26_3 hcz26_4 hcz26_5 hcz26_6
            try clear hcz32_0 hcz32_1
            try clear hcz44_0 hcz44_1
            try clear hfz10_0 hfz10_1 hfz10_2 hfz10_3 hfz10_4 hfz10_5 hfz10_6
            try clear hfz12_0 hfz12_1 hfz12_2 hfz12_3 hfz12_4 hfz12_5 hfz12_6
            try clear hfz13_0 hfz13_1
            try clear hfz16_0 hfz16_1 hfz16_2 hfz16_3 hfz16_4 hfz16_5 hfz16_6
            try clear hfz22_0 hfz22_1
            try clear hfz23_0 hfz23_1 hfz23_2 hfz23_3 hfz23_4 hfz23_5 hfz23_6
            try clear hfz26_0 hfz26_1 hfz26_2 hfz26_3 hfz26_4 hfz26_5 hfz26_6
            try clear hfz32_0 hfz32_1
            try clear hfz44_0 hfz44_1
            try clear p2
            obtain ⟨kq, x50_48, rfl, HA, HJ48, HO_6, BK218, BK219, HB⟩ := hcut
            cases kq with
            | zero => exact absurd HA.out (by simp [pdu_AnswerBytes.j3])
            | succ kj48 =>
             have H := HA.out
             clear HA
             simp only [pdu_AnswerBytes.j3] at H
             by_cases c51 : x50_48 = true
             ·subst c51
              have H1 : ((pdu_lay.f y225 (([a0_1, a0_2] : List Int))).bind fun t243 => (some (t243, 0))) = some (r1, r2) := by rw [if_pos rfl] at H; exact H
              clear H
              have H := H1
              clear H1
              obtain ⟨y240, hy240⟩ : ∃ y_ : List Int, y_ = (([a0_1, a0_2] : List Int)) := ⟨_, rfl⟩
              replace H : ((pdu_lay.f y225 y240).bind fun t243 => (some (t243, 0))) = some (r1, r2) := by first | (rw [hy240]; with_reducible exact H) | (have H2_ := (Option.bind_some _ _).symm.trans H; rw [hy240]; with_reducible exact H2_) | (have H2_ := (Option.bind_some _ _).symm.trans H; with_reducible exact H2_) | with_reducible exact H | (rw [hy240]; exact H) | exact H
              have Ny240 := Aside0.mk hy240
              clear hy240
              replace H := Option.bind_eq_some_iff.mp H
              obtain ⟨t243, A520, H⟩ := H
              replace H : (some (t243, 0)) = some (r1, r2) := H
              have A52 := Aside0.mk A520
              clear A520
              simp only [Option.some.injEq, Prod.mk.injEq] at H
              obtain ⟨rfl, rfl⟩ := H
              have hnb53 := NB218_219.out
              have hnc53 := NB219_218.out
              refine cz7_ BK218.out ?_; intro hcz54_0 hcz54_1 hcz54_2 hcz54_3 hcz54_4 hcz54_5 hcz54_6 hfz54_0 hfz54_1 hfz54_2 hfz54_3 hfz54_4 hfz54_5 hfz54_6
              go_wp2_with (first | ((with_reducible refine gate_dst (N := 58) rfl ?_); refine Kd.R_lit (Kd.int .i64) _ 3 ?hg (N := 58) ?hd (xs := ([a0_1, a0_2] : List Int)) (inner := [.int .i64 a0_1, .int .i64 a0_2]) (ok := fun _ => True) (okp := fun _ => True) ?hr ?hp (fun _ hk => hk) trivial (Below.refl _ _) (Nat.le_refl _) (by simp) ?_; (case hd => rfl); (case hg => rfl); (case hr => first | (go_simp; done) | (go_simp; rfl)); (case hp => exact (Reps.one (show Kd.M (Kd.int .i64) _ _ _ a0_1 [.int .i64 a0_1] from rfl) (Reps.one (show Kd.M (Kd.int .i64) _ _ _ a0_2 [.int .i64 a0_2] from rfl) (Reps.none _ _)))); intro v241 w55 ho56 hb hg_ hnew_; clear hg_ hnew_; (first | rw [← Ny240.out] at ho56 | (simp only [Int.reduceToNat] at ho56; rw [← Ny240.out] at ho56)); have n0_ := Aside0.mk (Kd.R_below (kr_ HO_6) hb); have n1_ := Aside0.mk (Kd.R_lower ho56 (below_size (bl2_ HB GE218 GE219))); have n2_ := Aside0.mk (blk_below (g := gb218) (bk_ BK218) hb); have n3_ := Aside0.mk (blk_below (g := gb219) (bk_ BK219) hb); have n4_ := Aside0.mk (below_step (bl2_ HB GE218 GE219) hb); clear HO_6; clear BK218; clear BK219; clear HB; have HO_6 := n0_; have HO242 := n1_; have BK218 := n2_; have BK219 := n3_; have HB := n4_; clear n0_ n1_ n2_ n3_ n4_; clear hb ho56; obtain ⟨Ao57, co57, eo57⟩ := Kd.R_slice HO_6.out; subst eo57; obtain ⟨Ao58, co58, eo58⟩ := Kd.R_slice HO242.out; subst eo58) | ((with_reducible refine gate_callee (f := 53) rfl ?_); refine goesL_ (some 59) rfl rfl Try.func53 (by kernel_rfl) rfl #[.slice Ao57 y225.length co57, .slice Ao58 y240.length co58] rfl ar_ ?_; (with_reducible refine (pdu_lay.calls _ _ y225 _ _ y240 t243 _ ?side1 ?side2 ?side3 ?side4 A52.out).mono ?_); (case side1 => exact sc_ (Kd.R_reads' HO_6.out).2.2); (case side2 => exact (Kd.R_reads' HO_6.out).2.1); (case side3 => exact sc_ (Kd.R_reads' HO242.out).2.2); (case side4 => exact (Kd.R_reads' HO242.out).2.1); rintro e w59 ⟨v244, rfl, ho0, hb⟩; refine ⟨_, rfl, ?_⟩; have n0_ := Aside0.mk (Kd.R_elder' (kr_ HO_6) (Kd.R_base ho0) hb); have n1_ := Aside0.mk (Kd.R_below (kr_ HO242) hb); have n2_ := Aside0.mk (Kd.R_lower (Kd.R_new' ho0 (Kd.R_lt (kr_ HO_6))) (below_size (bl2_ HB GE218 GE219))); have n3_ := Aside0.mk (blk_below (g := gb218) (bk_ BK218) hb); have n4_ := Aside0.mk (blk_below (g := gb219) (bk_ BK219) hb); have n5_ := Aside0.mk (below_step (bl2_ HB GE218 GE219) hb); clear HO_6; clear HO242; clear BK218; clear BK219; clear HB; have HO_6 := n0_; have HO242 := n1_; have HO245 := n2_; have BK218 := n3_; have BK219 := n4_; have HB := n5_; clear n0_ n1_ n2_ n3_ n4_ n5_; (try clear hb); (try clear hb2); (try clear hk); (try clear hi); (try clear ho0)))
              go_ret2
              exact ⟨_, er_, by (with_reducible repeat (first | apply Kd.R_alloc | apply Kd.R_drewN | apply Kd.R_drew)); exact Kd.R_mono HO245.out (fun _ hk => trivial), bl2_ HB GE218 GE219⟩
             ·replace c51 := Bool.eq_false_iff.mpr c51
              subst c51
              have H1 : ((pdu_Bytes.f kj48 a0_0 a0_1 a0_2 l0_3 a0_4 a0_5 a0_6).bind fun bt246 => (some (bt246.1, bt246.2))) = some (r1, r2) := by rw [if_neg (show ¬ (false = true) by decide)] at H; exact H
              clear H
              have H := H1
              clear H1
              replace H := Option.bind_eq_some_iff.mp H
              obtain ⟨⟨t246, t249⟩, A600, H⟩ := H
              replace H : (some (t246, t249)) = some (r1, r2) := H
              have A60 := Aside0.mk A600
              clear A600
              simp only [Option.some.injEq, Prod.mk.injEq] at H
              obtain ⟨rfl, rfl⟩ := H
              have hnb61 := NB218_219.out
              have hnc61 := NB219_218.out
              refine cz7_ BK218.out ?_; intro hcz62_0 hcz62_1 hcz62_2 hcz62_3 hcz62_4 hcz62_5 hcz62_6 hfz62_0 hfz62_1 hfz62_2 hfz62_3 hfz62_4 hfz62_5 hfz62_6
              go_wp2_with (first | ((with_reducible refine gate_callee (f := 30) rfl ?_); refine goesL_ (some 61) rfl rfl Try.func30 (by kernel_rfl) rfl #[.agg #[.int .i64 a0_0, .int .i64 a0_1, .int .i64 a0_2, .slice A0_3 l0_3.length c0_3, .int .i64 a0_4, .int .i64 a0_5, .int .i64 a0_6]] rfl ar_ ?_; (with_reducible refine (pdu_Bytes.calls kj48 a0_0 a0_1 a0_2 _ _ l0_3 a0_4 a0_5 a0_6 t246 t249 _ ?side1 ?side2 A60.out).mono ?_); (case side1 => exact sc_ (Kd.C_below HR0_3.out HB.out)); (case side2 => exact HC0_3.out); rintro e w63 ⟨v247, rfl, ho0, hb⟩; refine ⟨_, rfl, ?_⟩; have n0_ := Aside0.mk (Kd.R_elder' (kr_ HO_6) (Kd.R_base ho0) hb); have n1_ := Aside0.mk (Kd.R_lower (Kd.R_new' ho0 (Kd.R_lt (kr_ HO_6))) (below_size (bl2_ HB GE218 GE219))); have n2_ := Aside0.mk (blk_below (g := gb218) (bk_ BK218) hb); have n3_ := Aside0.mk (blk_below (g := gb219) (bk_ BK219) hb); have n4_ := Aside0.mk (below_step (bl2_ HB GE218 GE219) hb); clear HO_6; clear BK218; clear BK219; clear HB; have HO_6 := n0_; have HO248 := n1_; have BK218 := n2_; have BK219 := n3_; have HB := n4_; clear n0_ n1_ n2_ n3_ n4_; (try clear hb); (try clear hb2); (try clear hk); (try clear hi); (try clear ho0)))
              go_ret2
              exact ⟨_, er_, by (with_reducible repeat (first | apply Kd.R_alloc | apply Kd.R_drewN | apply Kd.R_drew)); exact Kd.R_mono HO248.out (fun _ hk => trivial), bl2_ HB GE218 GE219⟩
    ·rw [if_neg c19] at H
     have c19b0 : (a1_1 == 0) = false := beq_eq_false_iff_ne.mpr c19
     have c19b1 : (a1_1 != 0) = true := bne_iff_ne.mpr c19
     obtain ⟨y222, hy222⟩ : ∃ y_ : List Int, y_ = (([Go.bits .or .u8 ((a0_0) % 256) 128, (a1_1) % 256] : List Int)) := ⟨_, rfl⟩
     replace H : (some (y222, 0)) = some (r1, r2) := by first | (rw [hy222]; with_reducible exact H) | (have H2_ := (Option.bind_some _ _).symm.trans H; rw [hy222]; with_reducible exact H2_) | (have H2_ := (Option.bind_some _ _).symm.trans H; with_reducible exact H2_) | with_reducible exact H | (rw [hy222]; exact H) | exact H
     have Ny222 := Aside0.mk hy222
     clear hy222
     simp only [Option.some.injEq, Prod.mk.injEq] at H
     obtain ⟨rfl, rfl⟩ := H
     have hnb64 := NB219_218.out
     have hnc64 := NB218_219.out
     refine cz2_ BK219.out ?_; intro hcz65_0 hcz65_1 hfz65_0 hfz65_1
     refine cz7_ BK218.out ?_; intro hcz66_0 hcz66_1 hcz66_2 hcz66_3 hcz66_4 hcz66_5 hcz66_6 hfz66_0 hfz66_1 hfz66_2 hfz66_3 hfz66_4 hfz66_5 hfz66_6
     go_wp2_with (first | ((with_reducible refine gate_dst (N := 26) rfl ?_); refine Kd.R_lit (Kd.int .u8) _ 5 ?hg (N := 26) ?hd (xs := ([Go.bits .or .u8 ((a0_0) % 256) 128, (a1_1) % 256] : List Int)) (inner := [.int .u8 (Go.bits .or .u8 ((a0_0) % 256) 128), .int .u8 ((a1_1) % 256)]) (ok := fun _ => True) (okp := fun _ => True) ?hr ?hp (fun _ hk => hk) trivial (Below.refl _ _) (Nat.le_refl _) (by simp) ?_; (case hd => rfl); (case hg => rfl); (case hr => first | (go_simp; done) | (go_simp; rfl)); (case hp => exact (Reps.one (show Kd.M (Kd.int .u8) _ _ _ (Go.bits .or .u8 ((a0_0) % 256) 128) [.int .u8 (Go.bits .or .u8 ((a0_0) % 256) 128)] from rfl) (Reps.one (show Kd.M (Kd.int .u8) _ _ _ ((a1_1) % 256) [.int .u8 ((a1_1) % 256)] from rfl) (Reps.none _ _)))); intro v223 w67 ho68 hb hg_ hnew_; clear hg_ hnew_; (first | rw [← Ny222.out] at ho68 | (simp only [Int.reduceToNat] at ho68; rw [← Ny222.out] at ho68)); have n0_ := Aside0.mk (Kd.R_lower ho68 (below_size (bl2_ HB GE218 GE219))); have n1_ := Aside0.mk (blk_below (g := gb218) (bk_ BK218) hb); have n2_ := Aside0.mk (blk_below (g := gb219) (bk_ BK219) hb); have n3_ := Aside0.mk (below_step (bl2_ HB GE218 GE219) hb); clear BK218; clear BK219; clear HB; have HO224 := n0_; have BK218 := n1_; have BK219 := n2_; have HB := n3_; clear n0_ n1_ n2_ n3_; clear hb ho68))
     go_ret2
     exact ⟨_, er_, kr_ HO224, bl2_ HB GE218 GE219⟩
end Go.Proofs.Ytocicifgglkaeaa.PQ
end

section
namespace Go.Proofs.Ytocicifgglkaeaa.PR
open Go.RowKit Go.Proofs.YtocicifgglkaeaaW.PrintWords Go.Proofs.YtocicifgglkaeaaW.PrintLast Go.Proofs.YtocicifgglkaeaaW.PrintMore
attribute [local go_sem] max2_int min2_int max_two min_two max_three min_three max_four min_four   
set_option linter.unusedVariables false
set_option linter.unusedSimpArgs false
open Go.Proofs.Ytocicifgglkaeaa.Ext Go.Proofs.Ytocicifgglkaeaa.PP Go.Proofs.Ytocicifgglkaeaa.ExtF Go.Proofs.Ytocicifgglkaeaa.PQ Go.Proofs.Ytocicifgglkaeaa.ExtM
def errW : Option Int → Value
 | none => .nilIface
 | some c => .iface 0 (.int .i64 c)
theorem errW_none : errW none = .nilIface := rfl
theorem errW_some (c : Int) : errW (some c) = .iface 0 (.int .i64 c) := rfl
theorem info3 : (Try.prog.info? 3).map (fun i => (i.zero, i.size, i.bytes)) = some (some (.int .i64 0), 1, 8) := by kernel_rfl
theorem info5 : (Try.prog.info? 5).map (fun i => (i.zero, i.size, i.bytes)) = some (some (.int .u8 0), 1, 1) := by kernel_rfl
end Go.Proofs.Ytocicifgglkaeaa.PR
end

section
namespace Go.Proofs.Ytocicifgglkaeaa.PR
open Go.RowKit Go.Proofs.YtocicifgglkaeaaW.PrintWords Go.Proofs.YtocicifgglkaeaaW.PrintLast Go.Proofs.YtocicifgglkaeaaW.PrintMore
attribute [local go_sem] max2_int min2_int max_two min_two max_three min_three max_four min_four   
set_option linter.unusedVariables false
set_option linter.unusedSimpArgs false
open Go.Proofs.Ytocicifgglkaeaa.Ext Go.Proofs.Ytocicifgglkaeaa.PP Go.Proofs.Ytocicifgglkaeaa.ExtF Go.Proofs.Ytocicifgglkaeaa.PQ Go.Proofs.Ytocicifgglkaeaa.ExtM
def pdu_counted.f (l0 : List Int) (l1 : List Int) : Option (List Int) := if l0.length < 140737488355328 then ((some (l0 ++ [((l1.length : Int)) % 256] : List Int)).bind fun y339 => (if y339.length + l1.length < 140737488355328 then (some (y339 ++ l1)) else (none))) else (none)
set_option maxHeartbeats 8000000 in
set_option maxRecDepth 100000 in
theorem pdu_counted.calls (P0_ : Nat → Prop) (u9000_ : Value) (l0 : List Int) (A1 : Option Addr) (c1 : Nat) (l1 : List Int) (r : List Int) (w0 w : World) (hB : Below w0.heap.size w0 w) (ho0 : Kd.R (Kd.int .u8) 5 w w0.heap.size P0_ u9000_ l0) (hr1 : ∀ W_, Kept w W_ (fun k_ => P0_ k_) → Kd.C (Kd.int .u8) W_ A1 l1.length l1) (hc1 : l1.length ≤ c1) (h : pdu_counted.f l0 l1 = some r) :
 Calls Try.prog 54 #[u9000_, .slice A1 l1.length c1] w fun e w' => ∃ v0_ : Value, e = .returned (v0_) ∧ Kd.R (Kd.int .u8) 5 w' w0.heap.size (fun k_ => (P0_ k_ ∨ w.heap.size ≤ k_)) v0_ r ∧ Below w0.heap.size w0 w' ∧ Kept w w' (fun k_ => P0_ k_) := by
 have HO0 := Aside0.mk (show Kd.R (Kd.int .u8) 5 w w0.heap.size (fun k_ => (P0_ k_ ∨ w.heap.size ≤ k_)) u9000_ l0 from Kd.R_mono ho0 (fun k_ hk => (.inl hk)))
 have HR1 := Aside0.mk hr1
 have HC1 := Aside0.mk hc1
 clear hr1 hc1
 have HK := Aside0.mk (Kept.refl w (fun k_ => P0_ k_))
 have HW0 := Aside0.mk hB.size
 have HB := Aside0.mk hB
 clear hB
 have H : (if l0.length < 140737488355328 then ((some (l0 ++ [((l1.length : Int)) % 256] : List Int)).bind fun y339 => (if y339.length + l1.length < 140737488355328 then (some (y339 ++ l1)) else (none))) else (none)) = some r := h
 clear h
 by_cases c3 : l0.length < 140737488355328
 ·rw [if_pos c3] at H
  have LMc3 := Aside0.mk c3
  clear c3
  obtain ⟨y339, hy339⟩ : ∃ y_ : List Int, y_ = (l0 ++ [((l1.length : Int)) % 256]) := ⟨_, rfl⟩
  replace H : (if y339.length + l1.length < 140737488355328 then (some (y339 ++ l1)) else (none)) = some r := by first | (rw [hy339]; with_reducible exact H) | (have H2_ := (Option.bind_some _ _).symm.trans H; rw [hy339]; with_reducible exact H2_) | (have H2_ := (Option.bind_some _ _).symm.trans H; with_reducible exact H2_) | with_reducible exact H | (rw [hy339]; exact H) | exact H
  have Ny339 := Aside0.mk hy339
  clear hy339
  by_cases c4 : y339.length + l1.length < 140737488355328
  ·rw [if_pos c4] at H
   have LMc4 := Aside0.mk c4
   clear c4
   obtain ⟨y342, hy342⟩ : ∃ y_ : List Int, y_ = (y339 ++ l1) := ⟨_, rfl⟩
   replace H : (some y342) = some r := by first | (rw [hy342]; with_reducible exact H) | (have H2_ := (Option.bind_some _ _).symm.trans H; rw [hy342]; with_reducible exact H2_) | (have H2_ := (Option.bind_some _ _).symm.trans H; with_reducible exact H2_) | with_reducible exact H | (rw [hy342]; exact H) | exact H
   have Ny342 := Aside0.mk hy342
   clear hy342
   obtain rfl := Option.some.inj H
   go_enter Try.func54, Try.ntmps54
   go_wp2_with (first | ((with_reducible refine gate_builtin (b := .append) (xs := #[.tmp 5, .tmp 9]) rfl ?_); at_builtin; refine Kd.R_append (Kd.int .u8) (w0 := w0) w0.heap.size rfl (.tmp 5) (.tmp 9) 58 5 (.int .u8 0) 1 rfl Try.underlying58 info5 rfl (by decide) (by omega) u9000_ l0 (((l1.length : Int)) % 256) [.int .u8 (((l1.length : Int)) % 256)] (fun k_ => (P0_ k_ ∨ w.heap.size ≤ k_)) (fun _ => False) rfl rfl ?aP (fun _ hk => hk.elim) ?aF ?aO ?aB ?aS ?aL ?_; (case aP => exact rfl); (case aB => exact (bl0_ HB)); (case aF => exact (fun k_ hk => (.inr (Nat.le_trans (by first | exact HK.out.1 | exact (show Kept w _ (fun k_ => P0_ k_) from by repeat (first | (with_reducible first | exact HK.out | apply Kept.alloc | apply Kept.drewN | apply Kept.drew) | exact HK.out)).1) hk)))); (case aO => exact (kr_ HO0)); (case aS => exact (below_size (bl0_ HB))); (case aL => have := LMc3.out; omega); intro v340 w5 ho hb hg hat; rw [← Ny339.out] at ho; have n0_ := Aside0.mk (hb); have n1_ := Aside0.mk (Kept.of_grown (S := (fun k_ => P0_ k_)) hg (by repeat (first | (with_reducible first | exact HK.out | apply Kept.alloc | apply Kept.drewN | apply Kept.drew) | exact HK.out)) (fun k_ e_ => (HO0.out.1 k_ e_))); have n2_ := Aside0.mk (ho); clear HB; clear HK; clear HO0; have HB := n0_; have HK := n1_; have HO341 := n2_; clear n0_ n1_ n2_; clear ho hb hg hat) | ((with_reducible refine gate_builtin (b := .append) (xs := #[.tmp 10, .tmp 11]) rfl ?_); at_builtin; refine Kd.R_append_rows (Kd.int .u8) (w0 := w0) w0.heap.size rfl (.tmp 10) (.tmp 11) 58 5 (.int .u8 0) 1 rfl Try.underlying58 info5 rfl (by decide) (by omega) v340 y339 l1 _ _ _ (fun k_ => (P0_ k_ ∨ w.heap.size ≤ k_)) (fun _ => False) rfl rfl ?aO ?aR (fun _ _ h => h) (fun _ h => h.elim) ?aF ?aB ?aS ?aL ?_; (case aR => exact Kd.C_kept_now HR1.out (by repeat (first | (with_reducible first | exact HK.out | apply Kept.alloc | apply Kept.drewN | apply Kept.drew) | exact HK.out))); (case aB => exact (bl0_ HB)); (case aF => exact (fun k_ hk => (.inr (Nat.le_trans (by first | exact HK.out.1 | exact (show Kept w _ (fun k_ => P0_ k_) from by repeat (first | (with_reducible first | exact HK.out | apply Kept.alloc | apply Kept.drewN | apply Kept.drew) | exact HK.out)).1) hk)))); (case aO => exact (kr_ HO341)); (case aS => exact (below_size (bl0_ HB))); (case aL => have := LMc4.out; omega); intro v343 w6 ho hb hg hat; rw [← Ny342.out] at ho; have n0_ := Aside0.mk (hb); have n1_ := Aside0.mk (Kept.of_grown (S := (fun k_ => P0_ k_)) hg (by repeat (first | (with_reducible first | exact HK.out | apply Kept.alloc | apply Kept.drewN | apply Kept.drew) | exact HK.out)) (fun k_ e_ => (HO341.out.1 k_ e_))); have n2_ := Aside0.mk (ho); clear HB; clear HK; clear HO341; have HB := n0_; have HK := n1_; have HO344 := n2_; clear n0_ n1_ n2_; clear ho hb hg hat))
   go_ret
   exact ⟨_, er_, kr_ HO344, bl0_ HB, by repeat (first | (with_reducible first | exact HK.out | apply Kept.alloc | apply Kept.drewN | apply Kept.drew) | exact HK.out)⟩
  ·rw [if_neg c4] at H
   exact absurd H (by simp)
 ·rw [if_neg c3] at H
  exact absurd H (by simp)
def wire_At.f (l0 : List Int) (a1 : Int) : Option (Int × Int) := if a1 < 0 then (some (0, 1)) else (if a1 > (wrap64 ((l0.length : Int) - 2)) then (some (0, 7)) else (if 0 ≤ a1 then (if a1 < (l0.length : Int) then (if 0 ≤ (wrap64 (a1 + 1)) then (if (wrap64 (a1 + 1)) < (l0.length : Int) then (some (Go.bits .or .i64 (wrap64 ((wrap64 (rd l0 a1)) * 256)) (wrap64 (rd l0 (wrap64 (a1 + 1)))), 0)) else (none)) else (none)) else (none)) else (none)))
set_option maxHeartbeats 8000000 in
set_option maxRecDepth 100000 in
theorem wire_At.calls (A0 : Option Addr) (c0 : Nat) (l0 : List Int) (a1 : Int) (r1 : Int) (r2 : Int) (w : World) (hr0 : Kd.C (Kd.int .u8) w A0 l0.length l0) (hc0 : l0.length ≤ c0) (h : wire_At.f l0 a1 = some (r1, r2)) :
 Calls Try.prog 73 #[.slice A0 l0.length c0, .int .i64 a1] w fun e w' => e = .returned (.tuple #[.int .i64 r1, .int .i64 r2]) ∧ Drawn0 w w' := by
 have HR0 := Aside0.mk hr0
 have HC0 := Aside0.mk hc0
 clear hr0 hc0
 have H : (if a1 < 0 then (some (0, 1)) else (if a1 > (wrap64 ((l0.length : Int) - 2)) then (some (0, 7)) else (if 0 ≤ a1 then (if a1 < (l0.length : Int) then (if 0 ≤ (wrap64 (a1 + 1)) then (if (wrap64 (a1 + 1)) < (l0.length : Int) then (some (Go.bits .or .i64 (wrap64 ((wrap64 (rd l0 a1)) * 256)) (wrap64 (rd l0 (wrap64 (a1 + 1)))), 0)) else (none)) else (none)) else (none)) else (none)))) = some (r1, r2) := h
 clear h
 by_cases c3 : a1 < 0
 ·rw [if_pos c3] at H
  have c3b0 : decide (a1 < 0) = true := decide_eq_true c3
  clear c3
  simp only [Option.some.injEq, Prod.mk.injEq] at H
  obtain ⟨rfl, rfl⟩ := H
  go_enter Try.func73, Try.ntmps73
  go_wp2
  repeat (go_quiet (fail); try go_wp2)
  go_ret2
  exact ⟨by first | rfl | (simp; done) | (simp [*]; done), by repeat (first | exact Drawn0.refl _ | apply Drawn0.step)⟩
 ·rw [if_neg c3] at H
  have c3b0 : decide (a1 < 0) = false := decide_eq_false c3
  clear c3
  by_cases c4 : a1 > (wrap64 ((l0.length : Int) - 2))
  ·rw [if_pos c4] at H
   have c4b0 : decide ((wrap64 ((l0.length : Int) - 2)) < a1) = true := decide_eq_true c4
   clear c4
   simp only [Option.some.injEq, Prod.mk.injEq] at H
   obtain ⟨rfl, rfl⟩ := H
   go_enter Try.func73, Try.ntmps73
   go_wp2
   repeat (go_quiet (fail); try go_wp2)
   go_ret2
   exact ⟨by first | rfl | (simp; done) | (simp [*]; done), by repeat (first | exact Drawn0.refl _ | apply Drawn0.step)⟩
  ·rw [if_neg c4] at H
   have c4b0 : decide ((wrap64 ((l0.length : Int) - 2)) < a1) = false := decide_eq_false c4
   clear c4
   by_cases c5 : 0 ≤ a1
   ·rw [if_pos c5] at H
    have c5b0 : decide (0 ≤ a1) = true := decide_eq_true c5
    clear c5
    by_cases c6 : a1 < (l0.length : Int)
    ·rw [if_pos c6] at H
     have c6b0 : decide (a1 < (l0.length : Int)) = true := decide_eq_true c6
     clear c6
     obtain ⟨ji7, hji7⟩ : ∃ j_ : Int, (wrap64 (a1 + 1)) = j_ := ⟨_, rfl⟩
     replace H : (if 0 ≤ (ji7) then (if (ji7) < (l0.length : Int) then (some (Go.bits .or .i64 (wrap64 ((wrap64 (rd l0 a1)) * 256)) (wrap64 (rd l0 (ji7))), 0)) else (none)) else (none)) = some (r1, r2) := by first | (rw [hji7] at H; exact H) | (simp only [hji7] at H ⊢; exact H)
     have hji7w : (IntKind.i64.wrap (a1 + 1)) = ji7 := (i64_w _).trans hji7
     by_cases c8 : 0 ≤ (ji7)
     ·rw [if_pos c8] at H
      have c8b0 : decide (0 ≤ (ji7)) = true := decide_eq_true c8
      clear c8
      by_cases c9 : (ji7) < (l0.length : Int)
      ·rw [if_pos c9] at H
       have c9b0 : decide ((ji7) < (l0.length : Int)) = true := decide_eq_true c9
       clear c9
       simp only [Option.some.injEq, Prod.mk.injEq] at H
       obtain ⟨rfl, rfl⟩ := H
       have p345 : 0 ≤ (a1 : Int) := of_decide_eq_true (by first | (with_reducible assumption) | assumption)
       have q345 : a1 < (l0.length : Int) := of_decide_eq_true (by first | (with_reducible assumption) | assumption)
       obtain ⟨ad345, e345, hx345_0⟩ := Kd.at_int HR0.out a1 p345 q345
       cases e345
       replace p345 := eq_true p345
       replace q345 := eq_true q345
       have p346 : 0 ≤ ((ji7) : Int) := of_decide_eq_true (by first | (with_reducible assumption) | assumption)
       have q346 : (ji7) < (l0.length : Int) := of_decide_eq_true (by first | (with_reducible assumption) | assumption)
       obtain ⟨ad346, e346, hx346_0⟩ := Kd.at_int HR0.out (ji7) p346 q346
       obtain rfl : ad345 = ad346 := (by injection e346)
       replace p346 := eq_true p346
       replace q346 := eq_true q346
       go_enter Try.func73, Try.ntmps73
       go_wp2
       repeat (go_quiet (fail); try go_wp2)
       go_ret2
       exact ⟨by first | rfl | (simp; done) | (simp only [← hji7] <;> (first | rfl | simp)) | (simp [*]; done), by repeat (first | exact Drawn0.refl _ | apply Drawn0.step)⟩
      ·rw [if_neg c9] at H
       exact absurd H (by simp)
     ·rw [if_neg c8] at H
      exact absurd H (by simp)
    ·rw [if_neg c6] at H
     exact absurd H (by simp)
   ·rw [if_neg c5] at H
    exact absurd H (by simp)
def pdu_words.l0 : Nat → List Int → List Int → Int → Option (List Int)
 | 0, _, _, _ => none
 | k + 1, x0, x3, x4 => if (wrap64 (x4 + 1)) < (x0.length : Int) then ((wire_At.f x0 x4).bind fun bt347 => (if x3.length < 17592186044416 then (pdu_words.l0 k x0 (x3 ++ [bt347.1]) (wrap64 (x4 + 2))) else (none))) else (some x3)
def pdu_words.f (k : Nat) (l0 : List Int) : Option (List Int) := pdu_words.l0 k l0 ([] : List Int) 0
theorem pdu_words.mono_l : ∀ k, (∀ y0 y1 y2, LeO (pdu_words.l0 k y0 y1 y2) (pdu_words.l0 (k + 1) y0 y1 y2))
 | 0 => fun _ _ _ r h => by simp [pdu_words.l0] at h
 | k + 1 => by
  have ih0 := pdu_words.mono_l k
  ·intro y0 y1 y2
   unfold pdu_words.l0
   repeat' first
   | (with_reducible exact ih0 _ _ _)
   | (with_reducible exact LeO.refl _)
   | (with_reducible exact LeO.none _)
   | (with_reducible refine LeO.ite ?_ ?_)
   | (with_reducible refine LeO.bind ?_ (fun _ => ?_))
   | exact ih0 _ _ _
   | exact LeO.none _
   | refine LeO.ite ?_ ?_
   | refine LeO.bind ?_ (fun _ => ?_)
theorem pdu_words.mono : ∀ a0 k, LeO (pdu_words.f k a0) (pdu_words.f (k + 1) a0) := by
 intro a0 k
 have ih0 := pdu_words.mono_l k
 unfold pdu_words.f
 repeat' first
  | (with_reducible exact ih0 _ _ _)
  | (with_reducible exact LeO.refl _)
  | (with_reducible exact LeO.none _)
  | (with_reducible refine LeO.ite ?_ ?_)
  | (with_reducible refine LeO.bind ?_ (fun _ => ?_))
  | exact ih0 _ _ _
  | exact LeO.none _
  | refine LeO.ite ?_ ?_
  | refine LeO.bind ?_ (fun _ => ?_)
set_option maxHeartbeats 8000000 in
set_option maxRecDepth 100000 in
theorem pdu_words.calls (k : Nat) (A0 : Option Addr) (c0 : Nat) (l0 : List Int) (r : List Int) (w : World) (hr0 : Kd.C (Kd.int .u8) w A0 l0.length l0) (hc0 : l0.length ≤ c0) (h : pdu_words.f k l0 = some r) :
 Calls Try.prog 59 #[.slice A0 l0.length c0] w fun e w' => ∃ v0_ : Value, e = .returned (v0_) ∧ Kd.R (Kd.int .i64) 3 w' w.heap.size (fun _ => True) v0_ r ∧ Below w.heap.size w w' := by
 have HR0 := Aside0.mk hr0
 have HC0 := Aside0.mk hc0
 clear hr0 hc0
 have HB := Aside0.mk (Below.refl w.heap.size w)
 have H : (pdu_words.l0 k l0 ([] : List Int) 0) = some r := h
 clear h
 have H' := Aside0.mk H
 clear H
 go_enter Try.func59, Try.ntmps59
 go_wp2
 go_loopg [3, 4] k (fun kq v3 v4 w' => ∃ (x3_1 : List Int) (x4_1 : Int), v4 = .int .i64 x4_1 ∧ Aside0 (pdu_words.l0 kq l0 x3_1 x4_1 = some r) ∧ Aside0 (kq ≤ k) ∧ Aside0 (Kd.R (Kd.int .i64) 3 w' w.heap.size (fun _ => True) v3 x3_1) ∧ Aside0 (Below w.heap.size w w'))
 case atStart => exact ⟨(([] : List Int)), (0), (by first | rfl | (simp; done) | (simp [*]; done)), H', ⟨Nat.le_refl _⟩, ⟨by first | exact Kd.R_nil _ _ _ _ _ | exact Kd.N_nil _ _ _ _ _ | exact Kd.V_nil _ _ _ _ _ | exact Kd.Q_nil _ _ _ _ _ | exact Kd.S_nil _ _ _ _ _⟩, ⟨bl0_ HB⟩⟩
 case round =>
  clear H'
  obtain ⟨x3_1, x4_1, rfl, HA, HK1, HO_3, HB⟩ := hrel
  cases gk with
  | zero => exact absurd HA.out (by simp [pdu_words.l0])
  | succ k1 =>
   have H := HA.out
   clear HA
   simp only [pdu_words.l0] at H
   by_cases c2 : (wrap64 (x4_1 + 1)) < (l0.length : Int)
   ·rw [if_pos c2] at H
    have c2b0 : decide ((wrap64 (x4_1 + 1)) < (l0.length : Int)) = true := decide_eq_true c2
    clear c2
    replace H := Option.bind_eq_some_iff.mp H
    obtain ⟨⟨t347, t348⟩, A30, H⟩ := H
    replace H : (if x3_1.length < 17592186044416 then (pdu_words.l0 k1 l0 (x3_1 ++ [t347]) (wrap64 (x4_1 + 2))) else (none)) = some r := H
    have A3 := Aside0.mk A30
    clear A30
    by_cases c4 : x3_1.length < 17592186044416
    ·rw [if_pos c4] at H
     have LMc4 := Aside0.mk c4
     clear c4
     obtain ⟨y349, hy349⟩ : ∃ y_ : List Int, y_ = (x3_1 ++ [t347]) := ⟨_, rfl⟩
     replace H : (pdu_words.l0 k1 l0 y349 (wrap64 (x4_1 + 2))) = some r := by first | (rw [hy349]; with_reducible exact H) | (have H2_ := (Option.bind_some _ _).symm.trans H; rw [hy349]; with_reducible exact H2_) | (have H2_ := (Option.bind_some _ _).symm.trans H; with_reducible exact H2_) | with_reducible exact H | (rw [hy349]; exact H) | exact H
     have Ny349 := Aside0.mk hy349
     clear hy349
     have H' := Aside0.mk H
     clear H
     go_wp2_with (first | ((with_reducible refine gate_callee (f := 73) rfl ?_); refine goesL_ (some 17) rfl rfl Try.func73 (by kernel_rfl) rfl #[.slice A0 l0.length c0, .int .i64 x4_1] rfl ar_ ?_; (with_reducible refine (wire_At.calls _ _ l0 x4_1 t347 t348 _ ?side1 ?side2 A3.out).mono ?_); (case side1 => exact sc_ (Kd.C_below HR0.out HB.out)); (case side2 => exact HC0.out); rintro e w' ⟨rfl, ⟨nd, rfl⟩⟩; refine ⟨_, rfl, ?_⟩) | ((with_reducible refine gate_builtin (b := .append) (xs := #[.tmp 20, .tmp 22]) rfl ?_); at_builtin; refine Kd.R_append (Kd.int .i64) (w0 := w) w.heap.size rfl (.tmp 20) (.tmp 22) 22 3 (.int .i64 0) 8 rfl Try.underlying22 info3 rfl (by decide) (by omega) u3 x3_1 t347 [.int .i64 t347] (fun _ => True) (fun _ => False) rfl rfl ?aP (fun _ hk => hk.elim) ?aF ?aO ?aB ?aS ?aL ?_; (case aP => exact rfl); (case aB => exact (bl0_ HB)); (case aF => exact (fun _ _ => trivial)); (case aO => exact (kr_ HO_3)); (case aS => exact (below_size (bl0_ HB))); (case aL => have := LMc4.out; omega); intro v350 w5 ho hb hg hat; rw [← Ny349.out] at ho; have n0_ := Aside0.mk (hb); have n1_ := Aside0.mk (ho); clear HB; clear HO_3; have HB := n0_; have HO351 := n1_; clear n0_ n1_; clear ho hb hg hat))
     go_roundg k1
     case measure => have := HK1.out; omega
     case rel => exact ⟨(y349), (wrap64 (x4_1 + 2)), (by first | rfl | (simp; done) | (simp [*]; done)), H', ⟨by have := HK1.out; omega⟩, ⟨kr_ HO351⟩, ⟨bl0_ HB⟩⟩
    ·rw [if_neg c4] at H
     exact absurd H (by simp)
   ·rw [if_neg c2] at H
    have c2b0 : decide ((wrap64 (x4_1 + 1)) < (l0.length : Int)) = false := decide_eq_false c2
    clear c2
    obtain rfl := Option.some.inj H
    go_wp2
    go_ret
    exact ⟨_, er_, kr_ HO_3, bl0_ HB⟩
def wire_Unpack.l0 : Nat → List Int → List Int → Int → Int → Option (List Int × Int)
 | 0, _, _, _, _ => none
 | k + 1, x0, x6, x20, x21 => if x21 < x20 then (if 0 ≤ (wrap64 (Int.tdiv x21 8)) then (if (wrap64 (Int.tdiv x21 8)) < (x0.length : Int) then (if 0 ≤ (Int.tmod x21 8) then (if 0 ≤ x21 then (if x21 < (x6.length : Int) then (wire_Unpack.l0 k x0 (x6.set (x21 : Int).toNat (Go.bits .and .i64 (wrap64 (shr .u8 (rd x0 (wrap64 (Int.tdiv x21 8))) (Int.tmod x21 8))) 1)) x20 (wrap64 (x21 + 1))) else (none)) else (none)) else (none)) else (none)) else (none)) else (some (x6, 0))
def wire_Unpack.f (k : Nat) (l0 : List Int) (a1 : Int) : Option (List Int × Int) := if a1 < 0 then (some (([] : List Int), 1)) else (if a1 > (wrap64 (8 * (l0.length : Int))) then (some (([] : List Int), 7)) else (if 0 ≤ a1 then (if (a1 : Int).toNat ≤ 35184372088832 then ((some (List.replicate (a1 : Int).toNat 0 : List Int)).bind fun y352 => (wire_Unpack.l0 k l0 y352 (y352.length : Int) 0)) else (none)) else (none)))
theorem wire_Unpack.mono_l : ∀ k, (∀ y0 y1 y2 y3, LeO (wire_Unpack.l0 k y0 y1 y2 y3) (wire_Unpack.l0 (k + 1) y0 y1 y2 y3))
 | 0 => fun _ _ _ _ r h => by simp [wire_Unpack.l0] at h
 | k + 1 => by
  have ih0 := wire_Unpack.mono_l k
  ·intro y0 y1 y2 y3
   unfold wire_Unpack.l0
   repeat' first
   | (with_reducible exact ih0 _ _ _ _)
   | (with_reducible exact LeO.refl _)
   | (with_reducible exact LeO.none _)
   | (with_reducible refine LeO.ite ?_ ?_)
   | (with_reducible refine LeO.bind ?_ (fun _ => ?_))
   | exact ih0 _ _ _ _
   | exact LeO.none _
   | refine LeO.ite ?_ ?_
   | refine LeO.bind ?_ (fun _ => ?_)
theorem wire_Unpack.mono : ∀ a0 a1 k, LeO (wire_Unpack.f k a0 a1) (wire_Unpack.f (k + 1) a0 a1) := by
 intro a0 a1 k
 have ih0 := wire_Unpack.mono_l k
 unfold wire_Unpack.f
 repeat' first
  | (with_reducible exact ih0 _ _ _ _)
  | (with_reducible exact LeO.refl _)
  | (with_reducible exact LeO.none _)
  | (with_reducible refine LeO.ite ?_ ?_)
  | (with_reducible refine LeO.bind ?_ (fun _ => ?_))
  | exact ih0 _ _ _ _
  | exact LeO.none _
  | refine LeO.ite ?_ ?_
  | refine LeO.bind ?_ (fun _ => ?_)
set_option maxHeartbeats 8000000 in
set_option maxRecDepth 100000 in
theorem wire_Unpack.calls (k : Nat) (A0 : Option Addr) (c0 : Nat) (l0 : List Int) (a1 : Int) (r1 : List Int) (r2 : Int) (w : World) (hr0 : Kd.C (Kd.int .u8) w A0 l0.length l0) (hc0 : l0.length ≤ c0) (h : wire_Unpack.f k l0 a1 = some (r1, r2)) :
 Calls Try.prog 60 #[.slice A0 l0.length c0, .int .i64 a1] w fun e w' => ∃ v0_ : Value, e = .returned (.tuple #[v0_, .int .i64 r2]) ∧ Kd.R (Kd.int .i64) 3 w' w.heap.size (fun _ => True) v0_ r1 ∧ Below w.heap.size w w' := by
 have HR0 := Aside0.mk hr0
 have HC0 := Aside0.mk hc0
 clear hr0 hc0
 have HB := Aside0.mk (Below.refl w.heap.size w)
 have H : (if a1 < 0 then (some (([] : List Int), 1)) else (if a1 > (wrap64 (8 * (l0.length : Int))) then (some (([] : List Int), 7)) else (if 0 ≤ a1 then (if (a1 : Int).toNat ≤ 35184372088832 then ((some (List.replicate (a1 : Int).toNat 0 : List Int)).bind fun y352 => (wire_Unpack.l0 k l0 y352 (y352.length : Int) 0)) else (none)) else (none)))) = some (r1, r2) := h
 clear h
 by_cases c3 : a1 < 0
 ·rw [if_pos c3] at H
  have c3b0 : decide (a1 < 0) = true := decide_eq_true c3
  clear c3
  simp only [Option.some.injEq, Prod.mk.injEq] at H
  obtain ⟨rfl, rfl⟩ := H
  go_enter Try.func60, Try.ntmps60
  go_wp2
  go_ret2
  exact ⟨_, er_, by first | exact Kd.R_nil _ _ _ _ _ | exact Kd.N_nil _ _ _ _ _ | exact Kd.V_nil _ _ _ _ _ | exact Kd.Q_nil _ _ _ _ _ | exact Kd.S_nil _ _ _ _ _, bl0_ HB⟩
 ·rw [if_neg c3] at H
  have c3b0 : decide (a1 < 0) = false := decide_eq_false c3
  clear c3
  by_cases c4 : a1 > (wrap64 (8 * (l0.length : Int)))
  ·rw [if_pos c4] at H
   have c4b0 : decide ((wrap64 (8 * (l0.length : Int))) < a1) = true := decide_eq_true c4
   clear c4
   simp only [Option.some.injEq, Prod.mk.injEq] at H
   obtain ⟨rfl, rfl⟩ := H
   go_enter Try.func60, Try.ntmps60
   go_wp2
   go_ret2
   exact ⟨_, er_, by first | exact Kd.R_nil _ _ _ _ _ | exact Kd.N_nil _ _ _ _ _ | exact Kd.V_nil _ _ _ _ _ | exact Kd.Q_nil _ _ _ _ _ | exact Kd.S_nil _ _ _ _ _, bl0_ HB⟩
  ·rw [if_neg c4] at H
   have c4b0 : decide ((wrap64 (8 * (l0.length : Int))) < a1) = false := decide_eq_false c4
   clear c4
   by_cases c5 : 0 ≤ a1
   ·rw [if_pos c5] at H
    have c5b0 := eq_true c5
    have c5b1 : decide (0 ≤ a1) = true := decide_eq_true c5
    clear c5
    by_cases c6 : (a1 : Int).toNat ≤ 35184372088832
    ·rw [if_pos c6] at H
     have c6b0 := eq_true c6
     have c6b1 : decide ((a1 : Int).toNat ≤ 35184372088832) = true := decide_eq_true c6
     clear c6
     obtain ⟨y352, hy352⟩ : ∃ y_ : List Int, y_ = (List.replicate (a1 : Int).toNat 0) := ⟨_, rfl⟩
     replace H : (wire_Unpack.l0 k l0 y352 (y352.length : Int) 0) = some (r1, r2) := by first | (rw [hy352]; with_reducible exact H) | (have H2_ := (Option.bind_some _ _).symm.trans H; rw [hy352]; with_reducible exact H2_) | (have H2_ := (Option.bind_some _ _).symm.trans H; with_reducible exact H2_) | with_reducible exact H | (rw [hy352]; exact H) | exact H
     have Ny352 := Aside0.mk hy352
     clear hy352
     have H' := Aside0.mk H
     clear H
     go_enter Try.func60, Try.ntmps60
     go_wp2_with (first | ((with_reducible refine gate_dst (N := 18) rfl ?_); refine Kd.R_make (Kd.int .i64) _ 3 rfl (N := 18) rfl 22 _ _ rfl a1 rfl rfl Try.underlying22 (.int .i64 0) 8 info3 rfl (by decide) (by omega) 0 (ok := fun _ => True) (okp := fun _ => True) rfl (fun _ hk => hk) trivial (of_decide_eq_true (by first | (with_reducible assumption) | assumption)) (Nat.le_trans (Nat.mul_le_mul_right _ (of_decide_eq_true (by first | (with_reducible assumption) | assumption) : a1.toNat ≤ 35184372088832)) (by omega)) (Below.refl _ _) (Nat.le_refl _) ?_; intro v353 w7 ho8 hb hg_ hnew_; clear hg_ hnew_; (first | rw [← Ny352.out] at ho8 | (simp only [Int.reduceToNat] at ho8; rw [← Ny352.out] at ho8)); have n0_ := Aside0.mk (Kd.R_lower ho8 (below_size (bl0_ HB))); have n1_ := Aside0.mk (below_step (bl0_ HB) hb); clear HB; have HO354 := n0_; have HB := n1_; clear n0_ n1_; clear hb ho8; obtain ⟨Ao9, co9, eo9⟩ := Kd.R_slice HO354.out; subst eo9))
     go_loopg [21] k (fun kq v21 w' => ∃ (x6_1 : List Int) (x21_1 : Int), v21 = .int .i64 x21_1 ∧ Aside0 (wire_Unpack.l0 kq l0 x6_1 (y352.length : Int) x21_1 = some (r1, r2)) ∧ Aside0 (kq ≤ k) ∧ Aside0 (Kd.R (Kd.int .i64) 3 w' w.heap.size (fun _ => True) (.slice Ao9 y352.length co9) x6_1) ∧ Aside0 (Below w.heap.size w w'))
     case atStart => exact ⟨(y352), (0), (by first | rfl | (simp; done) | (simp [*]; done)), H', ⟨Nat.le_refl _⟩, ⟨kr_ HO354⟩, ⟨bl0_ HB⟩⟩
     case round =>
      clear H'
      try clear p2
      try clear c3
      try clear c3b0
      try clear c4
      try clear c4b0
      try clear c5
      try clear c5b0
      try clear c5b1
      try clear c6
      try clear c6b0
      try clear c6b1
      try clear p6
      obtain ⟨x6_1, x21_1, rfl, HA, HK1, HO_6, HB⟩ := hrel
      have hl6_1 := (Kd.R_reads' HO_6.out).1
      rw [hl6_1] at HO_6
      (try simp only [hl6_1])
      cases gk with
      | zero => exact absurd HA.out (by simp [wire_Unpack.l0])
      | succ k1 =>
       have H := HA.out
       clear HA
       simp only [wire_Unpack.l0] at H
       by_cases c10 : x21_1 < (y352.length : Int)
       ·rw [if_pos c10] at H
        have c10b0 : decide (x21_1 < (y352.length : Int)) = true := decide_eq_true c10
        clear c10
        obtain ⟨ji11, hji11⟩ : ∃ j_ : Int, (wrap64 (Int.tdiv x21_1 8)) = j_ := ⟨_, rfl⟩
        replace H : (if 0 ≤ (ji11) then (if (ji11) < (l0.length : Int) then (if 0 ≤ (Int.tmod x21_1 8) then (if 0 ≤ x21_1 then (if x21_1 < (x6_1.length : Int) then (wire_Unpack.l0 k1 l0 (x6_1.set (x21_1 : Int).toNat (Go.bits .and .i64 (wrap64 (shr .u8 (rd l0 (ji11)) (Int.tmod x21_1 8))) 1)) (y352.length : Int) (wrap64 (x21_1 + 1))) else (none)) else (none)) else (none)) else (none)) else (none)) = some (r1, r2) := by first | (rw [hji11] at H; exact H) | (simp only [hji11] at H ⊢; exact H)
        have hji11w : (IntKind.i64.wrap (Int.tdiv x21_1 8)) = ji11 := (i64_w _).trans hji11
        by_cases c12 : 0 ≤ (ji11)
        ·rw [if_pos c12] at H
         have c12b0 : decide (0 ≤ (ji11)) = true := decide_eq_true c12
         clear c12
         by_cases c13 : (ji11) < (l0.length : Int)
         ·rw [if_pos c13] at H
          have c13b0 : decide ((ji11) < (l0.length : Int)) = true := decide_eq_true c13
          clear c13
          obtain ⟨ji14, hji14⟩ : ∃ j_ : Int, (Int.tmod x21_1 8) = j_ := ⟨_, rfl⟩
          replace H : (if 0 ≤ (ji14) then (if 0 ≤ x21_1 then (if x21_1 < (x6_1.length : Int) then (wire_Unpack.l0 k1 l0 (x6_1.set (x21_1 : Int).toNat (Go.bits .and .i64 (wrap64 (shr .u8 (rd l0 (ji11)) (ji14))) 1)) (y352.length : Int) (wrap64 (x21_1 + 1))) else (none)) else (none)) else (none)) = some (r1, r2) := by first | (rw [hji14] at H; exact H) | (simp only [hji14] at H ⊢; exact H)
          by_cases c15 : 0 ≤ (ji14)
          ·rw [if_pos c15] at H
           have c15b0 := eq_true c15
           have c15b1 : decide (0 ≤ (ji14)) = true := decide_eq_true c15
           clear c15
           obtain ⟨ji16, hji16⟩ : ∃ j_ : Int, (shr .u8 (rd l0 (ji11)) (ji14)) = j_ := ⟨_, rfl⟩
           replace H : (if 0 ≤ x21_1 then (if x21_1 < (x6_1.length : Int) then (wire_Unpack.l0 k1 l0 (x6_1.set (x21_1 : Int).toNat (Go.bits .and .i64 (wrap64 (ji16)) 1)) (y352.length : Int) (wrap64 (x21_1 + 1))) else (none)) else (none)) = some (r1, r2) := by first | (rw [hji16] at H; exact H) | (simp only [hji16] at H ⊢; exact H)
           have hji16_ : ((rd l0 (ji11)) / 2 ^ min (ji14).toNat 8) = ji16 := hji16
           have hji16z : (ji14) ≤ 8 → ((rd l0 (ji11)) / 2 ^ (ji14).toNat) = ji16 := shr_small hji16
           by_cases c17 : 0 ≤ x21_1
           ·rw [if_pos c17] at H
            have c17b0 : decide (0 ≤ x21_1) = true := decide_eq_true c17
            clear c17
            by_cases c18 : x21_1 < (x6_1.length : Int)
            ·rw [if_pos c18] at H
             have c18b0 : decide (x21_1 < (x6_1.length : Int)) = true := decide_eq_true c18
             clear c18
             obtain ⟨y356, hy356⟩ : ∃ y_ : List Int, y_ = (x6_1.set (x21_1 : Int).toNat (Go.bits .and .i64 (wrap64 (ji16)) 1)) := ⟨_, rfl⟩
             replace H : (wire_Unpack.l0 k1 l0 y356 (y352.length : Int) (wrap64 (x21_1 + 1))) = some (r1, r2) := by first | (rw [hy356]; with_reducible exact H) | (have H2_ := (Option.bind_some _ _).symm.trans H; rw [hy356]; with_reducible exact H2_) | (have H2_ := (Option.bind_some _ _).symm.trans H; with_reducible exact H2_) | with_reducible exact H | (rw [hy356]; exact H) | exact H
             have Ny356 := Aside0.mk hy356
             clear hy356
             have H' := Aside0.mk H
             clear H
             have p355 : 0 ≤ ((ji11) : Int) := of_decide_eq_true (by first | (with_reducible assumption) | assumption)
             have q355 : (ji11) < (l0.length : Int) := of_decide_eq_true (by first | (with_reducible assumption) | assumption)
             obtain ⟨ad355, e355, hx355_0⟩ := Kd.at_int HR0.out (ji11) p355 q355
             cases e355
             replace hx355_0 := (HB.out.cell (World.block_lt_of_cell? w _ hx355_0)).trans hx355_0
             replace p355 := eq_true p355
             replace q355 := eq_true q355
             have p19 : 0 ≤ (x21_1 : Int) := of_decide_eq_true (by first | (with_reducible assumption) | assumption)
             have q19 : (x21_1 : Int) < ((x6_1.length : Int) : Int) := of_decide_eq_true (by first | (with_reducible assumption) | assumption)
             obtain ⟨go19, co19, eo19, gb19, gl19, cl19, HG19⟩ := Kd.R_form HO_6.out (by omega)
             (first | cases eo19 | (injection eo19 with ea_ en_ ec_; (first | subst ea_ | (injection ea_ with ea_; subst ea_)); subst ec_; clear en_))
             have GB19 := Aside0.mk gb19
             have GG19 := Aside0.mk HG19
             clear gb19 gl19 HG19
             obtain ⟨hx19_0, hf19_0⟩ := Kd.R_celln 0 HO_6.out (x21_1 : Int) p19 q19
             replace p19 := eq_true p19
             replace q19 := eq_true q19
             have HP20 := Kd.R_putg HO_6.out (x21_1 : Int) (Go.bits .and .i64 (wrap64 (ji16)) 1)
             go_wp2_with (first | ((with_reducible refine gate_store (t := 3) (p := 36) rfl ?_); refine store_event (t := 3) (p := 36) (v := ?vo_w21) (w1 := (wr.setCell ⟨go19, (x21_1 : Int).toNat, none⟩ (.int .i64 (Go.bits .and .i64 (wrap64 (ji16)) 1)))) ?hg ?ho ?hn ?hr ?_; (case ho => rfl); (case hg => rfl); (case hn => rfl); (case hr => first | (go_simp; done) | (go_simp; rfl)); intro w21 hw; have hg : wr.grownBy w21 (some go19) := (by rw [hw]; exact HP20.2); have hp_ : Kd.R (Kd.int .i64) 3 w21 w.heap.size (fun _ => True) (.slice (some ⟨go19, 0, none⟩) x6_1.length co9) y356 := (by rw [hw, Ny356.out]; exact HP20.1); clear HP20; have n0_ := Aside0.mk (hp_); have n1_ := Aside0.mk ((by rw [hw]; exact below_set (HB.out) GB19.out : Below w.heap.size w w21)); clear HO_6; clear HB; have HO_6 := n0_; have HB := n1_; clear n0_ n1_; clear hg hw hp_))
             (try simp only [← hl6_1])
             go_roundg k1
             case measure => have := HK1.out; omega
             case rel => exact ⟨(y356), (wrap64 (x21_1 + 1)), (by first | rfl | (simp; done) | (simp [*]; done)), H', ⟨by have := HK1.out; omega⟩, ⟨by (try simp only [hl6_1]); (with_reducible repeat (first | apply Kd.R_alloc | apply Kd.R_drewN | apply Kd.R_drew)); exact HO_6.out⟩, ⟨bl0_ HB⟩⟩
            ·rw [if_neg c18] at H
             exact absurd H (by simp)
           ·rw [if_neg c17] at H
            exact absurd H (by simp)
          ·rw [if_neg c15] at H
           exact absurd H (by simp)
         ·rw [if_neg c13] at H
          exact absurd H (by simp)
        ·rw [if_neg c12] at H
         exact absurd H (by simp)
       ·rw [if_neg c10] at H
        have c10b0 : decide (x21_1 < (y352.length : Int)) = false := decide_eq_false c10
        have c10b1 : decide (x21_1 < (x6_1.length : Int)) = false := by rw [← hl6_1]; exact c10b0
        clear c10
        simp only [Option.some.injEq, Prod.mk.injEq] at H
        obtain ⟨rfl, rfl⟩ := H
        go_wp2
        go_ret2
        exact ⟨_, er_, kr_ HO_6, bl0_ HB⟩
    ·rw [if_neg c6] at H
     exact absurd H (by simp)
   ·rw [if_neg c5] at H
    exact absurd H (by simp)
def bytes_Equal.f (l0 : List Int) (l1 : List Int) : Option (Bool) := some ((strOfNums l0).toList == (strOfNums l1).toList)
set_option maxHeartbeats 8000000 in
set_option maxRecDepth 100000 in
theorem bytes_Equal.calls (A0 : Option Addr) (c0 : Nat) (l0 : List Int) (A1 : Option Addr) (c1 : Nat) (l1 : List Int) (r : Bool) (w : World) (hr0 : Kd.C (Kd.int .u8) w A0 l0.length l0) (hc0 : l0.length ≤ c0) (hr1 : Kd.C (Kd.int .u8) w A1 l1.length l1) (hc1 : l1.length ≤ c1) (h : bytes_Equal.f l0 l1 = some r) :
 Calls Try.prog 62 #[.slice A0 l0.length c0, .slice A1 l1.length c1] w fun e w' => e = .returned (.bool r) ∧ Drawn0 w w' := by
 have HR0 := Aside0.mk hr0
 have HC0 := Aside0.mk hc0
 clear hr0 hc0
 have HR1 := Aside0.mk hr1
 have HC1 := Aside0.mk hc1
 clear hr1 hc1
 have H : (some ((strOfNums l0).toList == (strOfNums l1).toList)) = some r := h
 clear h
 obtain rfl := Option.some.inj H
 have hcv3 := Kd.C_string (P := Try.prog) (A := A0) (c := c0) Try.underlying58 Try.underlying5 Try.underlying9 HR0.out
 have hcv4 := Kd.C_string (P := Try.prog) (A := A1) (c := c1) Try.underlying58 Try.underlying5 Try.underlying9 HR1.out
 go_enter Try.func62, Try.ntmps62
 go_wp2
 go_ret
 exact ⟨by first | rfl | (simp; done) | (simp [*]; done), by repeat (first | exact Drawn0.refl _ | apply Drawn0.step)⟩
def bytes_Equal.Pure : Prop := ∀ (l0 : List Int) (l1 : List Int), l0.length ≤ maxLen → l0.length * 1 ≤ 140737488351232 → (∀ x ∈ l0, (Lit.int .u8 x).wf = true) → l1.length ≤ maxLen → l1.length * 1 ≤ 140737488351232 → (∀ x ∈ l1, (Lit.int .u8 x).wf = true) → bytes_Equal.f l0 l1 = some true
theorem bytes_Equal.walk (P : bytes_Equal.Pure) (a0 : Option Addr) (len0 cap0 : Nat) (z0 : List Int) (a1 : Option Addr) (len1 cap1 : Nat) (z1 : List Int) (w : World) (w0 : (a0 = none ∧ len0 = 0 ∧ cap0 = 0 ∧ z0 = []) ∨ ∃ x, a0 = some x ∧ len0 ≤ cap0 ∧ cap0 ≤ maxLen ∧ z0.length = cap0 ∧ (∀ i, i < z0.length → w.cell? (x.add i) = some (.int .u8 (z0.getD i 0))) ∧ ∀ n ∈ z0, (Lit.int .u8 n).wf = true) (y0 : len0 * 1 ≤ 140737488351232) (w1 : (a1 = none ∧ len1 = 0 ∧ cap1 = 0 ∧ z1 = []) ∨ ∃ x, a1 = some x ∧ len1 ≤ cap1 ∧ cap1 ≤ maxLen ∧ z1.length = cap1 ∧ (∀ i, i < z1.length → w.cell? (x.add i) = some (.int .u8 (z1.getD i 0))) ∧ ∀ n ∈ z1, (Lit.int .u8 n).wf = true) (y1 : len1 * 1 ≤ 140737488351232) :
 Calls Try.prog 62 #[.slice a0 len0 cap0, .slice a1 len1 cap1] w fun e w' => e = .returned (.bool true) ∧ Below w.heap.size w w' := by
 obtain ⟨l0, rfl, hr0, hm0, hw0, hc0⟩ := ReadsInt.ofRowC w0
 obtain ⟨l1, rfl, hr1, hm1, hw1, hc1⟩ := ReadsInt.ofRowC w1
 have h := P l0 l1 hm0 y0 hw0 hm1 y1 hw1
 refine (bytes_Equal.calls _ _ l0 _ _ l1 true w (Kd.C_of_reads (d := (0 : Int)) (h1 := fun _ => rfl) hr0) hc0 (Kd.C_of_reads (d := (0 : Int)) (h1 := fun _ => rfl) hr1) hc1 h).mono ?_
 rintro e w' ⟨rfl, hd⟩
 exact ⟨rfl, hd.below⟩
end Go.Proofs.Ytocicifgglkaeaa.PR
end

section
namespace Go.Proofs.Ytocicifgglkaeaa.PR
open Go.RowKit Go.Proofs.YtocicifgglkaeaaW.PrintWords Go.Proofs.YtocicifgglkaeaaW.PrintLast Go.Proofs.YtocicifgglkaeaaW.PrintMore
attribute [local go_sem] max2_int min2_int max_two min_two max_three min_three max_four min_four   
set_option linter.unusedVariables false
set_option linter.unusedSimpArgs false
open Go.Proofs.Ytocicifgglkaeaa.Ext Go.Proofs.Ytocicifgglkaeaa.PP Go.Proofs.Ytocicifgglkaeaa.ExtF Go.Proofs.Ytocicifgglkaeaa.PQ Go.Proofs.Ytocicifgglkaeaa.ExtM
def basculeref01_Word.f (a0 : Int) : Option (List Int) := some (([(wrap64 (Int.tdiv a0 256)) % 256, (Int.tmod a0 256) % 256] : List Int))
set_option maxHeartbeats 8000000 in
set_option maxRecDepth 100000 in
theorem basculeref01_Word.calls (a0 : Int) (r : List Int) (w : World) (h : basculeref01_Word.f a0 = some r) :
 Calls Try.prog 71 #[.int .i64 a0] w fun e w' => ∃ v0_ : Value, e = .returned (v0_) ∧ Kd.R (Kd.int .u8) 5 w' w.heap.size (fun _ => True) v0_ r ∧ Below w.heap.size w w' := by
 have HB := Aside0.mk (Below.refl w.heap.size w)
 have H : (some (([(wrap64 (Int.tdiv a0 256)) % 256, (Int.tmod a0 256) % 256] : List Int))) = some r := h
 clear h
 obtain ⟨y101, hy101⟩ : ∃ y_ : List Int, y_ = (([(wrap64 (Int.tdiv a0 256)) % 256, (Int.tmod a0 256) % 256] : List Int)) := ⟨_, rfl⟩
 replace H : (some y101) = some r := by first | (rw [hy101]; with_reducible exact H) | (have H2_ := (Option.bind_some _ _).symm.trans H; rw [hy101]; with_reducible exact H2_) | (have H2_ := (Option.bind_some _ _).symm.trans H; with_reducible exact H2_) | with_reducible exact H | (rw [hy101]; exact H) | exact H
 have Ny101 := Aside0.mk hy101
 clear hy101
 obtain rfl := Option.some.inj H
 go_enter Try.func71, Try.ntmps71
 go_wp2_with (first | ((with_reducible refine gate_dst (N := 9) rfl ?_); refine Kd.R_lit (Kd.int .u8) _ 5 ?hg (N := 9) ?hd (xs := ([(wrap64 (Int.tdiv a0 256)) % 256, (Int.tmod a0 256) % 256] : List Int)) (inner := [.int .u8 ((wrap64 (Int.tdiv a0 256)) % 256), .int .u8 ((Int.tmod a0 256) % 256)]) (ok := fun _ => True) (okp := fun _ => True) ?hr ?hp (fun _ hk => hk) trivial (Below.refl _ _) (Nat.le_refl _) (by simp) ?_; (case hd => rfl); (case hg => rfl); (case hr => first | (go_simp; done) | (go_simp; rfl)); (case hp => exact (Reps.one (show Kd.M (Kd.int .u8) _ _ _ ((wrap64 (Int.tdiv a0 256)) % 256) [.int .u8 ((wrap64 (Int.tdiv a0 256)) % 256)] from rfl) (Reps.one (show Kd.M (Kd.int .u8) _ _ _ ((Int.tmod a0 256) % 256) [.int .u8 ((Int.tmod a0 256) % 256)] from rfl) (Reps.none _ _)))); intro v102 w2 ho3 hb hg_ hnew_; clear hg_ hnew_; (first | rw [← Ny101.out] at ho3 | (simp only [Int.reduceToNat] at ho3; rw [← Ny101.out] at ho3)); have n0_ := Aside0.mk (Kd.R_lower ho3 (below_size (bl0_ HB))); have n1_ := Aside0.mk (below_step (bl0_ HB) hb); clear HB; have HO103 := n0_; have HB := n1_; clear n0_ n1_; clear hb ho3))
 go_ret
 exact ⟨_, er_, kr_ HO103, bl0_ HB⟩
def basculeref03_lay.l0 : Nat → List Int → List Int → Int → Option (List Int)
 | 0, _, _, _ => none
 | k + 1, x0, x3, x4 => if x4 < (x0.length : Int) then (if 0 ≤ x4 then ((basculeref01_Word.f (rd x0 x4)).bind fun t105 => (if x3.length + t105.length < 140737488355328 then (basculeref03_lay.l0 k x0 (x3 ++ t105) (wrap64 (x4 + 1))) else (none))) else (none)) else (some x3)
def basculeref03_lay.f (k : Nat) (l0 : List Int) : Option (List Int) := basculeref03_lay.l0 k l0 ([] : List Int) 0
theorem basculeref03_lay.mono_l : ∀ k, (∀ y0 y1 y2, LeO (basculeref03_lay.l0 k y0 y1 y2) (basculeref03_lay.l0 (k + 1) y0 y1 y2))
 | 0 => fun _ _ _ r h => by simp [basculeref03_lay.l0] at h
 | k + 1 => by
  have ih0 := basculeref03_lay.mono_l k
  ·intro y0 y1 y2
   unfold basculeref03_lay.l0
   repeat' first
   | (with_reducible exact ih0 _ _ _)
   | (with_reducible exact LeO.refl _)
   | (with_reducible exact LeO.none _)
   | (with_reducible refine LeO.ite ?_ ?_)
   | (with_reducible refine LeO.bind ?_ (fun _ => ?_))
   | exact ih0 _ _ _
   | exact LeO.none _
   | refine LeO.ite ?_ ?_
   | refine LeO.bind ?_ (fun _ => ?_)
theorem basculeref03_lay.mono : ∀ a0 k, LeO (basculeref03_lay.f k a0) (basculeref03_lay.f (k + 1) a0) := by
 intro a0 k
 have ih0 := basculeref03_lay.mono_l k
 unfold basculeref03_lay.f
 repeat' first
  | (with_reducible exact ih0 _ _ _)
  | (with_reducible exact LeO.refl _)
  | (with_reducible exact LeO.none _)
  | (with_reducible refine LeO.ite ?_ ?_)
  | (with_reducible refine LeO.bind ?_ (fun _ => ?_))
  | exact ih0 _ _ _
  | exact LeO.none _
  | refine LeO.ite ?_ ?_
  | refine LeO.bind ?_ (fun _ => ?_)
set_option maxHeartbeats 8000000 in
set_option maxRecDepth 100000 in
theorem basculeref03_lay.calls (k : Nat) (A0 : Option Addr) (c0 : Nat) (l0 : List Int) (r : List Int) (w : World) (hr0 : Kd.C (Kd.int .i64) w A0 l0.length l0) (hc0 : l0.length ≤ c0) (h : basculeref03_lay.f k l0 = some r) :
 Calls Try.prog 56 #[.slice A0 l0.length c0] w fun e w' => ∃ v0_ : Value, e = .returned (v0_) ∧ Kd.R (Kd.int .u8) 5 w' w.heap.size (fun _ => True) v0_ r ∧ Below w.heap.size w w' := by
 have HR0 := Aside0.mk hr0
 have HC0 := Aside0.mk hc0
 clear hr0 hc0
 have HB := Aside0.mk (Below.refl w.heap.size w)
 have H : (basculeref03_lay.l0 k l0 ([] : List Int) 0) = some r := h
 clear h
 have H' := Aside0.mk H
 clear H
 go_enter Try.func56, Try.ntmps56
 go_wp2
 go_loopg [3, 4] k (fun kq v3 v4 w' => ∃ (x3_1 : List Int) (x4_1 : Int), v4 = .int .i64 x4_1 ∧ Aside0 (basculeref03_lay.l0 kq l0 x3_1 x4_1 = some r) ∧ Aside0 (kq ≤ k) ∧ Aside0 (Kd.R (Kd.int .u8) 5 w' w.heap.size (fun _ => True) v3 x3_1) ∧ Aside0 (Below w.heap.size w w'))
 case atStart => exact ⟨(([] : List Int)), (0), (by first | rfl | (simp; done) | (simp [*]; done)), H', ⟨Nat.le_refl _⟩, ⟨by first | exact Kd.R_nil _ _ _ _ _ | exact Kd.N_nil _ _ _ _ _ | exact Kd.V_nil _ _ _ _ _ | exact Kd.Q_nil _ _ _ _ _ | exact Kd.S_nil _ _ _ _ _⟩, ⟨bl0_ HB⟩⟩
 case round =>
  clear H'
  obtain ⟨x3_1, x4_1, rfl, HA, HK1, HO_3, HB⟩ := hrel
  cases gk with
  | zero => exact absurd HA.out (by simp [basculeref03_lay.l0])
  | succ k1 =>
   have H := HA.out
   clear HA
   simp only [basculeref03_lay.l0] at H
   by_cases c2 : x4_1 < (l0.length : Int)
   ·rw [if_pos c2] at H
    have c2b0 : decide (x4_1 < (l0.length : Int)) = true := decide_eq_true c2
    clear c2
    by_cases c3 : 0 ≤ x4_1
    ·rw [if_pos c3] at H
     have c3b0 : decide (0 ≤ x4_1) = true := decide_eq_true c3
     clear c3
     replace H := Option.bind_eq_some_iff.mp H
     obtain ⟨t105, A40, H⟩ := H
     replace H : (if x3_1.length + t105.length < 140737488355328 then (basculeref03_lay.l0 k1 l0 (x3_1 ++ t105) (wrap64 (x4_1 + 1))) else (none)) = some r := H
     have A4 := Aside0.mk A40
     clear A40
     by_cases c5 : x3_1.length + t105.length < 140737488355328
     ·rw [if_pos c5] at H
      have LMc5 := Aside0.mk c5
      clear c5
      obtain ⟨y108, hy108⟩ : ∃ y_ : List Int, y_ = (x3_1 ++ t105) := ⟨_, rfl⟩
      replace H : (basculeref03_lay.l0 k1 l0 y108 (wrap64 (x4_1 + 1))) = some r := by first | (rw [hy108]; with_reducible exact H) | (have H2_ := (Option.bind_some _ _).symm.trans H; rw [hy108]; with_reducible exact H2_) | (have H2_ := (Option.bind_some _ _).symm.trans H; with_reducible exact H2_) | with_reducible exact H | (rw [hy108]; exact H) | exact H
      have Ny108 := Aside0.mk hy108
      clear hy108
      have H' := Aside0.mk H
      clear H
      have p104 : 0 ≤ (x4_1 : Int) := of_decide_eq_true (by first | (with_reducible assumption) | assumption)
      have q104 : x4_1 < (l0.length : Int) := of_decide_eq_true (by first | (with_reducible assumption) | assumption)
      obtain ⟨ad104, e104, hx104_0⟩ := Kd.at_int HR0.out x4_1 p104 q104
      cases e104
      replace hx104_0 := (HB.out.cell (World.block_lt_of_cell? w _ hx104_0)).trans hx104_0
      replace p104 := eq_true p104
      replace q104 := eq_true q104
      go_wp2_with (first | ((with_reducible refine gate_callee (f := 71) rfl ?_); refine goesL_ (some 16) rfl rfl Try.func71 (by kernel_rfl) rfl #[.int .i64 (rd l0 x4_1)] rfl ar_ ?_; (with_reducible refine (basculeref01_Word.calls (rd l0 x4_1) t105 _ A4.out).mono ?_); rintro e w6 ⟨v106, rfl, ho0, hb⟩; refine ⟨_, rfl, ?_⟩; have n0_ := Aside0.mk (Kd.R_elder' (kr_ HO_3) (Kd.R_base ho0) hb); have n1_ := Aside0.mk (Kd.R_lower (Kd.R_new' ho0 (Kd.R_lt (kr_ HO_3))) (below_size (bl0_ HB))); have n2_ := Aside0.mk (below_step (bl0_ HB) hb); clear HO_3; clear HB; have HO_3 := n0_; have HO107 := n1_; have HB := n2_; clear n0_ n1_ n2_; (try clear hb); (try clear hb2); (try clear hk); (try clear hi); (try clear ho0); obtain ⟨Ao8, co8, eo8⟩ := Kd.R_slice HO107.out; subst eo8) | ((with_reducible refine gate_builtin (b := .append) (xs := #[.tmp 11, .tmp 16]) rfl ?_); at_builtin; refine Kd.R_append_rows (Kd.int .u8) (w0 := w) w.heap.size rfl (.tmp 11) (.tmp 16) 58 5 (.int .u8 0) 1 rfl Try.underlying58 info5 rfl (by decide) (by omega) u3 x3_1 t105 _ _ _ (fun k_ => some k_ ≠ (.slice Ao8 t105.length co8 : Value).ownBlock) (fun _ => False) rfl rfl ?aO ?aR (fun _ _ h => h) (fun _ h => h.elim) ?aF ?aB ?aS ?aL ?_; (case aR => exact sc_ (Kd.R_reads' HO107.out).2.2); (case aB => exact (bl0_ HB)); (case aF => exact (fun k_ hk => Kd.fresh' (Kd.R_lt (kr_ HO107)) k_ hk)); (case aO => exact (by (with_reducible repeat (first | apply Kd.R_alloc | apply Kd.R_drewN | apply Kd.R_drew)); exact Kd.R_mono HO_3.out (fun _ hk => hk.2))); (case aS => exact (below_size (bl0_ HB))); (case aL => have := LMc5.out; omega); intro v109 w7 ho hb hg hat; rw [← Ny108.out] at ho; have n0_ := Aside0.mk (Kd.R_after (ok := (fun _ => True)) (kr_ HO107) hg hat); have n1_ := Aside0.mk (hb); have n2_ := Aside0.mk (ho); clear HO107; clear HB; clear HO_3; have HO107 := n0_; have HB := n1_; have HO110 := n2_; clear n0_ n1_ n2_; clear ho hb hg hat))
      go_roundg k1
      case measure => have := HK1.out; omega
      case rel => exact ⟨(y108), (wrap64 (x4_1 + 1)), (by first | rfl | (simp; done) | (simp [*]; done)), H', ⟨by have := HK1.out; omega⟩, ⟨by (with_reducible repeat (first | apply Kd.R_alloc | apply Kd.R_drewN | apply Kd.R_drew)); exact Kd.R_mono HO110.out (fun _ hk => trivial)⟩, ⟨bl0_ HB⟩⟩
     ·rw [if_neg c5] at H
      exact absurd H (by simp)
    ·rw [if_neg c3] at H
     exact absurd H (by simp)
   ·rw [if_neg c2] at H
    have c2b0 : decide (x4_1 < (l0.length : Int)) = false := decide_eq_false c2
    clear c2
    obtain rfl := Option.some.inj H
    go_wp2
    go_ret
    exact ⟨_, er_, kr_ HO_3, bl0_ HB⟩
def basculeref01_Both.f (l0 : List Int) (l1 : List Int) : Option (List Int) := if ([] : List Int).length + l0.length < 140737488355328 then ((some (([] : List Int) ++ l0 : List Int)).bind fun y111 => (if y111.length + l1.length < 140737488355328 then (some (y111 ++ l1)) else (none))) else (none)
set_option maxHeartbeats 8000000 in
set_option maxRecDepth 100000 in
theorem basculeref01_Both.calls (A0 : Option Addr) (c0 : Nat) (l0 : List Int) (A1 : Option Addr) (c1 : Nat) (l1 : List Int) (r : List Int) (w : World) (hr0 : Kd.C (Kd.int .u8) w A0 l0.length l0) (hc0 : l0.length ≤ c0) (hr1 : Kd.C (Kd.int .u8) w A1 l1.length l1) (hc1 : l1.length ≤ c1) (h : basculeref01_Both.f l0 l1 = some r) :
 Calls Try.prog 72 #[.slice A0 l0.length c0, .slice A1 l1.length c1] w fun e w' => ∃ v0_ : Value, e = .returned (v0_) ∧ Kd.R (Kd.int .u8) 5 w' w.heap.size (fun _ => True) v0_ r ∧ Below w.heap.size w w' := by
 have HR0 := Aside0.mk hr0
 have HC0 := Aside0.mk hc0
 clear hr0 hc0
 have HR1 := Aside0.mk hr1
 have HC1 := Aside0.mk hc1
 clear hr1 hc1
 have HB := Aside0.mk (Below.refl w.heap.size w)
 have H : (if ([] : List Int).length + l0.length < 140737488355328 then ((some (([] : List Int) ++ l0 : List Int)).bind fun y111 => (if y111.length + l1.length < 140737488355328 then (some (y111 ++ l1)) else (none))) else (none)) = some r := h
 clear h
 by_cases c3 : ([] : List Int).length + l0.length < 140737488355328
 ·rw [if_pos c3] at H
  have LMc3 := Aside0.mk c3
  clear c3
  obtain ⟨y111, hy111⟩ : ∃ y_ : List Int, y_ = (([] : List Int) ++ l0) := ⟨_, rfl⟩
  replace H : (if y111.length + l1.length < 140737488355328 then (some (y111 ++ l1)) else (none)) = some r := by first | (rw [hy111]; with_reducible exact H) | (have H2_ := (Option.bind_some _ _).symm.trans H; rw [hy111]; with_reducible exact H2_) | (have H2_ := (Option.bind_some _ _).symm.trans H; with_reducible exact H2_) | with_reducible exact H | (rw [hy111]; exact H) | exact H
  have Ny111 := Aside0.mk hy111
  clear hy111
  by_cases c4 : y111.length + l1.length < 140737488355328
  ·rw [if_pos c4] at H
   have LMc4 := Aside0.mk c4
   clear c4
   obtain ⟨y114, hy114⟩ : ∃ y_ : List Int, y_ = (y111 ++ l1) := ⟨_, rfl⟩
   replace H : (some y114) = some r := by first | (rw [hy114]; with_reducible exact H) | (have H2_ := (Option.bind_some _ _).symm.trans H; rw [hy114]; with_reducible exact H2_) | (have H2_ := (Option.bind_some _ _).symm.trans H; with_reducible exact H2_) | with_reducible exact H | (rw [hy114]; exact H) | exact H
   have Ny114 := Aside0.mk hy114
   clear hy114
   obtain rfl := Option.some.inj H
   go_enter Try.func72, Try.ntmps72
   go_wp2_with (first | ((with_reducible refine gate_builtin (b := .append) (xs := #[.tmp 6, .tmp 7]) rfl ?_); at_builtin; refine Kd.R_append_rows (Kd.int .u8) (w0 := w) w.heap.size rfl (.tmp 6) (.tmp 7) 58 5 (.int .u8 0) 1 rfl Try.underlying58 info5 rfl (by decide) (by omega) (.slice none 0 0) ([] : List Int) l0 _ _ _ (fun _ => True) (fun _ => False) rfl rfl ?aO ?aR (fun _ _ h => h) (fun _ h => h.elim) ?aF ?aB ?aS ?aL ?_; (case aR => repeat (first | exact HR0.out | (with_reducible refine Kd.C_alloc ?_ _) | (with_reducible refine Kd.C_drewN ?_ _) | (with_reducible refine Kd.C_drew ?_))); (case aB => exact (bl0_ HB)); (case aF => exact (fun _ _ => trivial)); (case aO => exact ((Kd.R_nil _ _ _ _ (fun _ => True)))); (case aS => exact (below_size (bl0_ HB))); (case aL => have := LMc3.out; omega); intro v112 w5 ho hb hg hat; rw [← Ny111.out] at ho; have n0_ := Aside0.mk (hb); have n1_ := Aside0.mk (ho); clear HB; have HB := n0_; have HO113 := n1_; clear n0_ n1_; clear ho hb hg hat) | ((with_reducible refine gate_builtin (b := .append) (xs := #[.tmp 9, .tmp 10]) rfl ?_); at_builtin; refine Kd.R_append_rows (Kd.int .u8) (w0 := w) w.heap.size rfl (.tmp 9) (.tmp 10) 58 5 (.int .u8 0) 1 rfl Try.underlying58 info5 rfl (by decide) (by omega) v112 y111 l1 _ _ _ (fun _ => True) (fun _ => False) rfl rfl ?aO ?aR (fun _ _ h => h) (fun _ h => h.elim) ?aF ?aB ?aS ?aL ?_; (case aR => exact sc_ (Kd.C_below HR1.out HB.out)); (case aB => exact (bl0_ HB)); (case aF => exact (fun _ _ => trivial)); (case aO => exact (kr_ HO113)); (case aS => exact (below_size (bl0_ HB))); (case aL => have := LMc4.out; omega); intro v115 w6 ho hb hg hat; rw [← Ny114.out] at ho; have n0_ := Aside0.mk (hb); have n1_ := Aside0.mk (ho); clear HB; clear HO113; have HB := n0_; have HO116 := n1_; clear n0_ n1_; clear ho hb hg hat))
   go_ret
   exact ⟨_, er_, kr_ HO116, bl0_ HB⟩
  ·rw [if_neg c4] at H
   exact absurd H (by simp)
 ·rw [if_neg c3] at H
  exact absurd H (by simp)
def basculeref03_counted.f (l0 : List Int) : Option (List Int) := (basculeref01_Both.f (([((l0.length : Int)) % 256] : List Int)) l0).bind fun t120 => (some t120)
set_option maxHeartbeats 8000000 in
set_option maxRecDepth 100000 in
theorem basculeref03_counted.calls (A0 : Option Addr) (c0 : Nat) (l0 : List Int) (r : List Int) (w : World) (hr0 : Kd.C (Kd.int .u8) w A0 l0.length l0) (hc0 : l0.length ≤ c0) (h : basculeref03_counted.f l0 = some r) :
 Calls Try.prog 57 #[.slice A0 l0.length c0] w fun e w' => ∃ v0_ : Value, e = .returned (v0_) ∧ Kd.R (Kd.int .u8) 5 w' w.heap.size (fun _ => True) v0_ r ∧ Below w.heap.size w w' := by
 have HR0 := Aside0.mk hr0
 have HC0 := Aside0.mk hc0
 clear hr0 hc0
 have HB := Aside0.mk (Below.refl w.heap.size w)
 have H : ((basculeref01_Both.f (([((l0.length : Int)) % 256] : List Int)) l0).bind fun t120 => (some t120)) = some r := h
 clear h
 obtain ⟨y117, hy117⟩ : ∃ y_ : List Int, y_ = (([((l0.length : Int)) % 256] : List Int)) := ⟨_, rfl⟩
 replace H : ((basculeref01_Both.f y117 l0).bind fun t120 => (some t120)) = some r := by first | (rw [hy117]; with_reducible exact H) | (have H2_ := (Option.bind_some _ _).symm.trans H; rw [hy117]; with_reducible exact H2_) | (have H2_ := (Option.bind_some _ _).symm.trans H; with_reducible exact H2_) | with_reducible exact H | (rw [hy117]; exact H) | exact H
 have Ny117 := Aside0.mk hy117
 clear hy117
 replace H := Option.bind_eq_some_iff.mp H
 obtain ⟨t120, A20, H⟩ := H
 replace H : (some t120) = some r := H
 have A2 := Aside0.mk A20
 clear A20
 obtain rfl := Option.some.inj H
 go_enter Try.func57, Try.ntmps57
 go_wp2_with (first | ((with_reducible refine gate_dst (N := 6) rfl ?_); refine Kd.R_lit (Kd.int .u8) _ 5 ?hg (N := 6) ?hd (xs := ([((l0.length : Int)) % 256] : List Int)) (inner := [.int .u8 (((l0.length : Int)) % 256)]) (ok := fun _ => True) (okp := fun _ => True) ?hr ?hp (fun _ hk => hk) trivial (Below.refl _ _) (Nat.le_refl _) (by simp) ?_; (case hd => rfl); (case hg => rfl); (case hr => first | (go_simp; done) | (go_simp; rfl)); (case hp => exact (Reps.one (show Kd.M (Kd.int .u8) _ _ _ (((l0.length : Int)) % 256) [.int .u8 (((l0.length : Int)) % 256)] from rfl) (Reps.none _ _))); intro v118 w3 ho4 hb hg_ hnew_; clear hg_ hnew_; (first | rw [← Ny117.out] at ho4 | (simp only [Int.reduceToNat] at ho4; rw [← Ny117.out] at ho4)); have n0_ := Aside0.mk (Kd.R_lower ho4 (below_size (bl0_ HB))); have n1_ := Aside0.mk (below_step (bl0_ HB) hb); clear HB; have HO119 := n0_; have HB := n1_; clear n0_ n1_; clear hb ho4; obtain ⟨Ao5, co5, eo5⟩ := Kd.R_slice HO119.out; subst eo5) | ((with_reducible refine gate_callee (f := 72) rfl ?_); refine goesL_ (some 8) rfl rfl Try.func72 (by kernel_rfl) rfl #[.slice Ao5 y117.length co5, .slice A0 l0.length c0] rfl ar_ ?_; (with_reducible refine (basculeref01_Both.calls _ _ y117 _ _ l0 t120 _ ?side1 ?side2 ?side3 ?side4 A2.out).mono ?_); (case side1 => exact sc_ (Kd.R_reads' HO119.out).2.2); (case side2 => exact (Kd.R_reads' HO119.out).2.1); (case side3 => exact sc_ (Kd.C_below HR0.out HB.out)); (case side4 => exact HC0.out); rintro e w6 ⟨v121, rfl, ho0, hb⟩; refine ⟨_, rfl, ?_⟩; have n0_ := Aside0.mk (Kd.R_elder' (kr_ HO119) (Kd.R_base ho0) hb); have n1_ := Aside0.mk (Kd.R_lower (Kd.R_new' ho0 (Kd.R_lt (kr_ HO119))) (below_size (bl0_ HB))); have n2_ := Aside0.mk (below_step (bl0_ HB) hb); clear HO119; clear HB; have HO119 := n0_; have HO122 := n1_; have HB := n2_; clear n0_ n1_ n2_; (try clear hb); (try clear hb2); (try clear hk); (try clear hi); (try clear ho0)))
 go_ret
 exact ⟨_, er_, by (with_reducible repeat (first | apply Kd.R_alloc | apply Kd.R_drewN | apply Kd.R_drew)); exact Kd.R_mono HO122.out (fun _ hk => trivial), bl0_ HB⟩
mutual
def basculeref01_Pack.l0 : Nat → List Int → List Int → Int → Option (List Int)
 | 0, _, _, _ => none
 | k + 1, x0, x3, x4 => if x4 < (x0.length : Int) then (basculeref01_Pack.l1 k x0 x3 x4 0 1 x4) else (some x3)
def basculeref01_Pack.l1 : Nat → List Int → List Int → Int → Int → Int → Int → Option (List Int)
 | 0, _, _, _, _, _, _ => none
 | k + 1, x0, x3, x4, x5, x6, x7 => if x7 < (wrap64 (x4 + 8)) then (if x7 < (x0.length : Int) then (if 0 ≤ x7 then (basculeref01_Pack.l1 k x0 x3 x4 (wrap64 (x5 + (wrap64 (x6 * (rd x0 x7))))) (wrap64 (2 * x6)) (wrap64 (x7 + 1))) else (none)) else (if x3.length < 140737488355328 then (basculeref01_Pack.l0 k x0 (x3 ++ [(x5) % 256]) (wrap64 (x4 + 8))) else (none))) else (if x3.length < 140737488355328 then (basculeref01_Pack.l0 k x0 (x3 ++ [(x5) % 256]) (wrap64 (x4 + 8))) else (none))
end
def basculeref01_Pack.f (k : Nat) (l0 : List Int) : Option (List Int) := basculeref01_Pack.l0 k l0 ([] : List Int) 0
theorem basculeref01_Pack.mono_l : ∀ k, (∀ y0 y1 y2, LeO (basculeref01_Pack.l0 k y0 y1 y2) (basculeref01_Pack.l0 (k + 1) y0 y1 y2)) ∧ (∀ y0 y1 y2 y3 y4 y5, LeO (basculeref01_Pack.l1 k y0 y1 y2 y3 y4 y5) (basculeref01_Pack.l1 (k + 1) y0 y1 y2 y3 y4 y5))
 | 0 => ⟨fun _ _ _ r h => by simp [basculeref01_Pack.l0] at h, fun _ _ _ _ _ _ r h => by simp [basculeref01_Pack.l1] at h⟩
 | k + 1 => by
  obtain ⟨ih0, ih1⟩ := basculeref01_Pack.mono_l k
  refine ⟨?_, ?_⟩
  ·intro y0 y1 y2
   unfold basculeref01_Pack.l0
   repeat' first
   | (with_reducible exact ih0 _ _ _)
   | (with_reducible exact ih1 _ _ _ _ _ _)
   | (with_reducible exact LeO.refl _)
   | (with_reducible exact LeO.none _)
   | (with_reducible refine LeO.ite ?_ ?_)
   | (with_reducible refine LeO.bind ?_ (fun _ => ?_))
   | exact ih0 _ _ _
   | exact ih1 _ _ _ _ _ _
   | exact LeO.none _
   | refine LeO.ite ?_ ?_
   | refine LeO.bind ?_ (fun _ => ?_)
  ·intro y0 y1 y2 y3 y4 y5
   unfold basculeref01_Pack.l1
   repeat' first
   | (with_reducible exact ih0 _ _ _)
   | (with_reducible exact ih1 _ _ _ _ _ _)
   | (with_reducible exact LeO.refl _)
   | (with_reducible exact LeO.none _)
   | (with_reducible refine LeO.ite ?_ ?_)
   | (with_reducible refine LeO.bind ?_ (fun _ => ?_))
   | exact ih0 _ _ _
   | exact ih1 _ _ _ _ _ _
   | exact LeO.none _
   | refine LeO.ite ?_ ?_
   | refine LeO.bind ?_ (fun _ => ?_)
theorem basculeref01_Pack.mono : ∀ a0 k, LeO (basculeref01_Pack.f k a0) (basculeref01_Pack.f (k + 1) a0) := by
 intro a0 k
 obtain ⟨ih0, ih1⟩ := basculeref01_Pack.mono_l k
 unfold basculeref01_Pack.f
 repeat' first
  | (with_reducible exact ih0 _ _ _)
  | (with_reducible exact ih1 _ _ _ _ _ _)
  | (with_reducible exact LeO.refl _)
  | (with_reducible exact LeO.none _)
  | (with_reducible refine LeO.ite ?_ ?_)
  | (with_reducible refine LeO.bind ?_ (fun _ => ?_))
  | exact ih0 _ _ _
  | exact ih1 _ _ _ _ _ _
  | exact LeO.none _
  | refine LeO.ite ?_ ?_
  | refine LeO.bind ?_ (fun _ => ?_)
set_option maxHeartbeats 8000000 in
set_option maxRecDepth 100000 in
theorem basculeref01_Pack.calls (k : Nat) (A0 : Option Addr) (c0 : Nat) (l0 : List Int) (r : List Int) (w : World) (hr0 : Kd.C (Kd.int .i64) w A0 l0.length l0) (hc0 : l0.length ≤ c0) (h : basculeref01_Pack.f k l0 = some r) :
 Calls Try.prog 58 #[.slice A0 l0.length c0] w fun e w' => ∃ v0_ : Value, e = .returned (v0_) ∧ Kd.R (Kd.int .u8) 5 w' w.heap.size (fun _ => True) v0_ r ∧ Below w.heap.size w w' := by
 have HR0 := Aside0.mk hr0
 have HC0 := Aside0.mk hc0
 clear hr0 hc0
 have HB := Aside0.mk (Below.refl w.heap.size w)
 have H : (basculeref01_Pack.l0 k l0 ([] : List Int) 0) = some r := h
 clear h
 have H' := Aside0.mk H
 clear H
 go_enter Try.func58, Try.ntmps58
 go_wp2
 go_loopg [3, 4] k (fun kq v3 v4 w' => ∃ (x3_1 : List Int) (x4_1 : Int), v4 = .int .i64 x4_1 ∧ Aside0 (basculeref01_Pack.l0 kq l0 x3_1 x4_1 = some r) ∧ Aside0 (kq ≤ k) ∧ Aside0 (Kd.R (Kd.int .u8) 5 w' w.heap.size (fun _ => True) v3 x3_1) ∧ Aside0 (Below w.heap.size w w'))
 case atStart => exact ⟨(([] : List Int)), (0), (by first | rfl | (simp; done) | (simp [*]; done)), H', ⟨Nat.le_refl _⟩, ⟨by first | exact Kd.R_nil _ _ _ _ _ | exact Kd.N_nil _ _ _ _ _ | exact Kd.V_nil _ _ _ _ _ | exact Kd.Q_nil _ _ _ _ _ | exact Kd.S_nil _ _ _ _ _⟩, ⟨bl0_ HB⟩⟩
 case round =>
  clear H'
  obtain ⟨x3_1, x4_1, rfl, HA, HK1, HO_3, HB⟩ := hrel
  cases gk with
  | zero => exact absurd HA.out (by simp [basculeref01_Pack.l0])
  | succ k1 =>
   have H := HA.out
   clear HA
   simp only [basculeref01_Pack.l0] at H
   by_cases c2 : x4_1 < (l0.length : Int)
   ·rw [if_pos c2] at H
    have c2b0 : decide (x4_1 < (l0.length : Int)) = true := decide_eq_true c2
    clear c2
    have H' := Aside0.mk H
    clear H
    go_wp2
    go_loopg [5, 6, 7] k1 (fun kq v5 v6 v7 w' => ∃ (x5_2 : Int) (x6_2 : Int) (x7_2 : Int), v5 = .int .i64 x5_2 ∧ v6 = .int .i64 x6_2 ∧ v7 = .int .i64 x7_2 ∧ Aside0 (basculeref01_Pack.l1 kq l0 x3_1 x4_1 x5_2 x6_2 x7_2 = some r) ∧ Aside0 (kq ≤ k1) ∧ Aside0 (Kd.R (Kd.int .u8) 5 w' w.heap.size (fun _ => True) u3 x3_1) ∧ Aside0 (Below w.heap.size w w'))
    case atStart => exact ⟨(0), (1), (x4_1), (by first | rfl | (simp; done) | (simp [*]; done)), (by first | rfl | (simp; done) | (simp [*]; done)), (by first | rfl | (simp; done) | (simp [*]; done)), H', ⟨Nat.le_refl _⟩, ⟨kr_ HO_3⟩, ⟨bl0_ HB⟩⟩
    case round =>
     clear H'
     try clear c2
     try clear c2b0
     try clear p2
     obtain ⟨x5_2, x6_2, x7_2, rfl, rfl, rfl, HA, HK2, HO_3, HB⟩ := hrel
     cases gk with
     | zero => exact absurd HA.out (by simp [basculeref01_Pack.l1])
     | succ k2 =>
      have H := HA.out
      clear HA
      simp only [basculeref01_Pack.l1] at H
      by_cases c3 : x7_2 < (wrap64 (x4_1 + 8))
      ·rw [if_pos c3] at H
       have c3b0 : decide (x7_2 < (wrap64 (x4_1 + 8))) = true := decide_eq_true c3
       clear c3
       by_cases c4 : x7_2 < (l0.length : Int)
       ·rw [if_pos c4] at H
        have c4b0 : decide (x7_2 < (l0.length : Int)) = true := decide_eq_true c4
        clear c4
        by_cases c5 : 0 ≤ x7_2
        ·rw [if_pos c5] at H
         have c5b0 : decide (0 ≤ x7_2) = true := decide_eq_true c5
         clear c5
         have H' := Aside0.mk H
         clear H
         have p123 : 0 ≤ (x7_2 : Int) := of_decide_eq_true (by first | (with_reducible assumption) | assumption)
         have q123 : x7_2 < (l0.length : Int) := of_decide_eq_true (by first | (with_reducible assumption) | assumption)
         obtain ⟨ad123, e123, hx123_0⟩ := Kd.at_int HR0.out x7_2 p123 q123
         cases e123
         replace hx123_0 := (HB.out.cell (World.block_lt_of_cell? w _ hx123_0)).trans hx123_0
         replace p123 := eq_true p123
         replace q123 := eq_true q123
         go_wp2
         go_roundg k2
         case measure => have := HK1.out; have := HK2.out; omega
         case rel => exact ⟨(wrap64 (x5_2 + (wrap64 (x6_2 * (rd l0 x7_2))))), (wrap64 (2 * x6_2)), (wrap64 (x7_2 + 1)), (by first | rfl | (simp; done) | (simp [*]; done)), (by first | rfl | (simp; done) | (simp [*]; done)), (by first | rfl | (simp; done) | (simp [*]; done)), H', ⟨by have := HK1.out; have := HK2.out; omega⟩, ⟨kr_ HO_3⟩, ⟨bl0_ HB⟩⟩
        ·rw [if_neg c5] at H
         exact absurd H (by simp)
       ·rw [if_neg c4] at H
        have c4b0 : decide (x7_2 < (l0.length : Int)) = false := decide_eq_false c4
        clear c4
        by_cases c6 : x3_1.length < 140737488355328
        ·rw [if_pos c6] at H
         have LMc6 := Aside0.mk c6
         clear c6
         obtain ⟨y124, hy124⟩ : ∃ y_ : List Int, y_ = (x3_1 ++ [(x5_2) % 256]) := ⟨_, rfl⟩
         replace H : (basculeref01_Pack.l0 k2 l0 y124 (wrap64 (x4_1 + 8))) = some r := by first | (rw [hy124]; with_reducible exact H) | (have H2_ := (Option.bind_some _ _).symm.trans H; rw [hy124]; with_reducible exact H2_) | (have H2_ := (Option.bind_some _ _).symm.trans H; with_reducible exact H2_) | with_reducible exact H | (rw [hy124]; exact H) | exact H
         have Ny124 := Aside0.mk hy124
         clear hy124
         have H' := Aside0.mk H
         clear H
         go_wp2_with (first | ((with_reducible refine gate_builtin (b := .append) (xs := #[.tmp 37, .tmp 40]) rfl ?_); (try (refine gate_guard (by rfl) ?_; dsimp only)); at_builtin; refine Kd.R_append (Kd.int .u8) (w0 := w) w.heap.size rfl (.tmp 37) (.tmp 40) 58 5 (.int .u8 0) 1 rfl Try.underlying58 info5 rfl (by decide) (by omega) u3 x3_1 ((x5_2) % 256) [.int .u8 ((x5_2) % 256)] (fun _ => True) (fun _ => False) rfl rfl ?aP (fun _ hk => hk.elim) ?aF ?aO ?aB ?aS ?aL ?_; (case aP => exact rfl); (case aB => exact (bl0_ HB)); (case aF => exact (fun _ _ => trivial)); (case aO => exact (kr_ HO_3)); (case aS => exact (below_size (bl0_ HB))); (case aL => have := LMc6.out; omega); intro v125 w7 ho hb hg hat; rw [← Ny124.out] at ho; have n0_ := Aside0.mk (hb); have n1_ := Aside0.mk (ho); clear HB; clear HO_3; have HB := n0_; have HO126 := n1_; clear n0_ n1_; clear ho hb hg hat))
         go_roundg k2
         case measure => have := HK1.out; have := HK2.out; omega
         case rel => exact ⟨(y124), (wrap64 (x4_1 + 8)), (by first | rfl | (simp; done) | (simp [*]; done)), H', ⟨by have := HK1.out; have := HK2.out; omega⟩, ⟨kr_ HO126⟩, ⟨bl0_ HB⟩⟩
        ·rw [if_neg c6] at H
         exact absurd H (by simp)
      ·rw [if_neg c3] at H
       have c3b0 : decide (x7_2 < (wrap64 (x4_1 + 8))) = false := decide_eq_false c3
       clear c3
       by_cases c8 : x3_1.length < 140737488355328
       ·rw [if_pos c8] at H
        have LMc8 := Aside0.mk c8
        clear c8
        obtain ⟨y127, hy127⟩ : ∃ y_ : List Int, y_ = (x3_1 ++ [(x5_2) % 256]) := ⟨_, rfl⟩
        replace H : (basculeref01_Pack.l0 k2 l0 y127 (wrap64 (x4_1 + 8))) = some r := by first | (rw [hy127]; with_reducible exact H) | (have H2_ := (Option.bind_some _ _).symm.trans H; rw [hy127]; with_reducible exact H2_) | (have H2_ := (Option.bind_some _ _).symm.trans H; with_reducible exact H2_) | with_reducible exact H | (rw [hy127]; exact H) | exact H
        have Ny127 := Aside0.mk hy127
        clear hy127
        have H' := Aside0.mk H
        clear H
        go_wp2_with (first | ((with_reducible refine gate_builtin (b := .append) (xs := #[.tmp 37, .tmp 40]) rfl ?_); (try (refine gate_guard (by rfl) ?_; dsimp only)); at_builtin; refine Kd.R_append (Kd.int .u8) (w0 := w) w.heap.size rfl (.tmp 37) (.tmp 40) 58 5 (.int .u8 0) 1 rfl Try.underlying58 info5 rfl (by decide) (by omega) u3 x3_1 ((x5_2) % 256) [.int .u8 ((x5_2) % 256)] (fun _ => True) (fun _ => False) rfl rfl ?aP (fun _ hk => hk.elim) ?aF ?aO ?aB ?aS ?aL ?_; (case aP => exact rfl); (case aB => exact (bl0_ HB)); (case aF => exact (fun _ _ => trivial)); (case aO => exact (kr_ HO_3)); (case aS => exact (below_size (bl0_ HB))); (case aL => have := LMc8.out; omega); intro v128 w9 ho hb hg hat; rw [← Ny127.out] at ho; have n0_ := Aside0.mk (hb); have n1_ := Aside0.mk (ho); clear HB; clear HO_3; have HB := n0_; have HO129 := n1_; clear n0_ n1_; clear ho hb hg hat))
        go_roundg k2
        case measure => have := HK1.out; have := HK2.out; omega
        case rel => exact ⟨(y127), (wrap64 (x4_1 + 8)), (by first | rfl | (simp; done) | (simp [*]; done)), H', ⟨by have := HK1.out; have := HK2.out; omega⟩, ⟨kr_ HO129⟩, ⟨bl0_ HB⟩⟩
       ·rw [if_neg c8] at H
        exact absurd H (by simp)
   ·rw [if_neg c2] at H
    have c2b0 : decide (x4_1 < (l0.length : Int)) = false := decide_eq_false c2
    clear c2
    obtain rfl := Option.some.inj H
    go_wp2
    go_ret
    exact ⟨_, er_, kr_ HO_3, bl0_ HB⟩
end Go.Proofs.Ytocicifgglkaeaa.PR
end

section
namespace Go.Proofs.Ytocicifgglkaeaa.PR
open Go.RowKit Go.Proofs.YtocicifgglkaeaaW.PrintWords Go.Proofs.YtocicifgglkaeaaW.PrintLast Go.Proofs.YtocicifgglkaeaaW.PrintMore
attribute [local go_sem] max2_int min2_int max_two min_two max_three min_three max_four min_four   
set_option linter.unusedVariables false
set_option linter.unusedSimpArgs false
open Go.Proofs.Ytocicifgglkaeaa.Ext Go.Proofs.Ytocicifgglkaeaa.PP Go.Proofs.Ytocicifgglkaeaa.ExtF Go.Proofs.Ytocicifgglkaeaa.PQ Go.Proofs.Ytocicifgglkaeaa.ExtM
def basculeref01_Number.f (l0 : List Int) : Option (Int) := if 0 < (l0.length : Int) then (if 1 < (l0.length : Int) then (some (wrap64 ((wrap64 (256 * (wrap64 (rd l0 0)))) + (wrap64 (rd l0 1))))) else (none)) else (none)
set_option maxHeartbeats 8000000 in
set_option maxRecDepth 100000 in
theorem basculeref01_Number.calls (A0 : Option Addr) (c0 : Nat) (l0 : List Int) (r : Int) (w : World) (hr0 : Kd.C (Kd.int .u8) w A0 l0.length l0) (hc0 : l0.length ≤ c0) (h : basculeref01_Number.f l0 = some r) :
 Calls Try.prog 63 #[.slice A0 l0.length c0] w fun e w' => e = .returned (.int .i64 r) ∧ Drawn0 w w' := by
 have HR0 := Aside0.mk hr0
 have HC0 := Aside0.mk hc0
 clear hr0 hc0
 have H : (if 0 < (l0.length : Int) then (if 1 < (l0.length : Int) then (some (wrap64 ((wrap64 (256 * (wrap64 (rd l0 0)))) + (wrap64 (rd l0 1))))) else (none)) else (none)) = some r := h
 clear h
 by_cases c2 : 0 < (l0.length : Int)
 ·rw [if_pos c2] at H
  have c2b0 : decide (0 < (l0.length : Int)) = true := decide_eq_true c2
  have c2b1 : decide (0 < l0.length) = true := decide_eq_true (by omega)
  clear c2
  by_cases c3 : 1 < (l0.length : Int)
  ·rw [if_pos c3] at H
   have c3b0 : decide (1 < (l0.length : Int)) = true := decide_eq_true c3
   have c3b1 : decide (1 < l0.length) = true := decide_eq_true (by omega)
   clear c3
   obtain rfl := Option.some.inj H
   have p226 : 0 ≤ (0 : Int) := (by omega)
   have q226 : 0 < (l0.length : Int) := of_decide_eq_true (by first | (with_reducible assumption) | assumption)
   obtain ⟨ad226, e226, hx226_0⟩ := Kd.at_int HR0.out 0 p226 q226
   cases e226
   have qi226 : (0 < l0.length) = True := eq_true (by omega)
   (try rw [show ((0 : Int)).toNat = 0 from rfl] at hx226_0)
   (try rw [Addr.add_zero'] at hx226_0)
   replace p226 := eq_true p226
   replace q226 := eq_true q226
   have p227 : 0 ≤ (1 : Int) := (by omega)
   have q227 : 1 < (l0.length : Int) := of_decide_eq_true (by first | (with_reducible assumption) | assumption)
   obtain ⟨ad227, e227, hx227_0⟩ := Kd.at_int HR0.out 1 p227 q227
   obtain rfl : ad226 = ad227 := (by injection e227)
   (try simp only [show (1 : Int).toNat = 1 from rfl, Nat.reduceMul, Nat.reduceEqDiff, Go.Addr.add, ↓reduceIte] at hx227_0)
   have qi227 : (1 < l0.length) = True := eq_true (by omega)
   (try rw [show ((1 : Int)).toNat = 1 from rfl] at hx227_0)
   replace p227 := eq_true p227
   replace q227 := eq_true q227
   go_enter Try.func63, Try.ntmps63
   go_wp2
   repeat (go_quiet (fail); try go_wp2)
   go_ret
   exact ⟨by first | rfl | (simp; done) | (simp [*]; done), by repeat (first | exact Drawn0.refl _ | apply Drawn0.step)⟩
  ·rw [if_neg c3] at H
   exact absurd H (by simp)
 ·rw [if_neg c2] at H
  exact absurd H (by simp)
mutual
def basculeref01_Unpack.l0 : Nat → List Int → Int → List Int → Int → Option (List Int)
 | 0, _, _, _, _ => none
 | k + 1, x0, x1, x5, x6 => if x6 < x1 then (if 0 ≤ (wrap64 (Int.tdiv x6 8)) then (if (wrap64 (Int.tdiv x6 8)) < (x0.length : Int) then (basculeref01_Unpack.l1 k x0 x1 x5 x6 (wrap64 (rd x0 (wrap64 (Int.tdiv x6 8)))) 0) else (none)) else (none)) else (some x5)
def basculeref01_Unpack.l1 : Nat → List Int → Int → List Int → Int → Int → Int → Option (List Int)
 | 0, _, _, _, _, _, _ => none
 | k + 1, x0, x1, x5, x6, x7, x8 => if x8 < (Int.tmod x6 8) then (basculeref01_Unpack.l1 k x0 x1 x5 x6 (wrap64 (Int.tdiv x7 2)) (wrap64 (x8 + 1))) else (if x5.length < 17592186044416 then (basculeref01_Unpack.l0 k x0 x1 (x5 ++ [Int.tmod x7 2]) (wrap64 (x6 + 1))) else (none))
end
def basculeref01_Unpack.f (k : Nat) (l0 : List Int) (a1 : Int) : Option (List Int) := basculeref01_Unpack.l0 k l0 a1 ([] : List Int) 0
theorem basculeref01_Unpack.mono_l : ∀ k, (∀ y0 y1 y2 y3, LeO (basculeref01_Unpack.l0 k y0 y1 y2 y3) (basculeref01_Unpack.l0 (k + 1) y0 y1 y2 y3)) ∧ (∀ y0 y1 y2 y3 y4 y5, LeO (basculeref01_Unpack.l1 k y0 y1 y2 y3 y4 y5) (basculeref01_Unpack.l1 (k + 1) y0 y1 y2 y3 y4 y5))
 | 0 => ⟨fun _ _ _ _ r h => by simp [basculeref01_Unpack.l0] at h, fun _ _ _ _ _ _ r h => by simp [basculeref01_Unpack.l1] at h⟩
 | k + 1 => by
  obtain ⟨ih0, ih1⟩ := basculeref01_Unpack.mono_l k
  refine ⟨?_, ?_⟩
  ·intro y0 y1 y2 y3
   unfold basculeref01_Unpack.l0
   repeat' first
   | (with_reducible exact ih0 _ _ _ _)
   | (with_reducible exact ih1 _ _ _ _ _ _)
   | (with_reducible exact LeO.refl _)
   | (with_reducible exact LeO.none _)
   | (with_reducible refine LeO.ite ?_ ?_)
   | (with_reducible refine LeO.bind ?_ (fun _ => ?_))
   | exact ih0 _ _ _ _
   | exact ih1 _ _ _ _ _ _
   | exact LeO.none _
   | refine LeO.ite ?_ ?_
   | refine LeO.bind ?_ (fun _ => ?_)
  ·intro y0 y1 y2 y3 y4 y5
   unfold basculeref01_Unpack.l1
   repeat' first
   | (with_reducible exact ih0 _ _ _ _)
   | (with_reducible exact ih1 _ _ _ _ _ _)
   | (with_reducible exact LeO.refl _)
   | (with_reducible exact LeO.none _)
   | (with_reducible refine LeO.ite ?_ ?_)
   | (with_reducible refine LeO.bind ?_ (fun _ => ?_))
   | exact ih0 _ _ _ _
   | exact ih1 _ _ _ _ _ _
   | exact LeO.none _
   | refine LeO.ite ?_ ?_
   | refine LeO.bind ?_ (fun _ => ?_)
theorem basculeref01_Unpack.mono : ∀ a0 a1 k, LeO (basculeref01_Unpack.f k a0 a1) (basculeref01_Unpack.f (k + 1) a0 a1) := by
 intro a0 a1 k
 obtain ⟨ih0, ih1⟩ := basculeref01_Unpack.mono_l k
 unfold basculeref01_Unpack.f
 repeat' first
  | (with_reducible exact ih0 _ _ _ _)
  | (with_reducible exact ih1 _ _ _ _ _ _)
  | (with_reducible exact LeO.refl _)
  | (with_reducible exact LeO.none _)
  | (with_reducible refine LeO.ite ?_ ?_)
  | (with_reducible refine LeO.bind ?_ (fun _ => ?_))
  | exact ih0 _ _ _ _
  | exact ih1 _ _ _ _ _ _
  | exact LeO.none _
  | refine LeO.ite ?_ ?_
  | refine LeO.bind ?_ (fun _ => ?_)
set_option maxHeartbeats 8000000 in
set_option maxRecDepth 100000 in
theorem basculeref01_Unpack.calls (k : Nat) (A0 : Option Addr) (c0 : Nat) (l0 : List Int) (a1 : Int) (r : List Int) (w : World) (hr0 : Kd.C (Kd.int .u8) w A0 l0.length l0) (hc0 : l0.length ≤ c0) (h : basculeref01_Unpack.f k l0 a1 = some r) :
 Calls Try.prog 64 #[.slice A0 l0.length c0, .int .i64 a1] w fun e w' => ∃ v0_ : Value, e = .returned (v0_) ∧ Kd.R (Kd.int .i64) 3 w' w.heap.size (fun _ => True) v0_ r ∧ Below w.heap.size w w' := by
 have HR0 := Aside0.mk hr0
 have HC0 := Aside0.mk hc0
 clear hr0 hc0
 have HB := Aside0.mk (Below.refl w.heap.size w)
 have H : (basculeref01_Unpack.l0 k l0 a1 ([] : List Int) 0) = some r := h
 clear h
 have H' := Aside0.mk H
 clear H
 go_enter Try.func64, Try.ntmps64
 go_wp2
 go_loopg [5, 6] k (fun kq v5 v6 w' => ∃ (x5_1 : List Int) (x6_1 : Int), v6 = .int .i64 x6_1 ∧ Aside0 (basculeref01_Unpack.l0 kq l0 a1 x5_1 x6_1 = some r) ∧ Aside0 (kq ≤ k) ∧ Aside0 (Kd.R (Kd.int .i64) 3 w' w.heap.size (fun _ => True) v5 x5_1) ∧ Aside0 (Below w.heap.size w w'))
 case atStart => exact ⟨(([] : List Int)), (0), (by first | rfl | (simp; done) | (simp [*]; done)), H', ⟨Nat.le_refl _⟩, ⟨by first | exact Kd.R_nil _ _ _ _ _ | exact Kd.N_nil _ _ _ _ _ | exact Kd.V_nil _ _ _ _ _ | exact Kd.Q_nil _ _ _ _ _ | exact Kd.S_nil _ _ _ _ _⟩, ⟨bl0_ HB⟩⟩
 case round =>
  clear H'
  try clear p2
  obtain ⟨x5_1, x6_1, rfl, HA, HK1, HO_5, HB⟩ := hrel
  cases gk with
  | zero => exact absurd HA.out (by simp [basculeref01_Unpack.l0])
  | succ k1 =>
   have H := HA.out
   clear HA
   simp only [basculeref01_Unpack.l0] at H
   by_cases c3 : x6_1 < a1
   ·rw [if_pos c3] at H
    have c3b0 : decide (x6_1 < a1) = true := decide_eq_true c3
    clear c3
    obtain ⟨ji4, hji4⟩ : ∃ j_ : Int, (wrap64 (Int.tdiv x6_1 8)) = j_ := ⟨_, rfl⟩
    replace H : (if 0 ≤ (ji4) then (if (ji4) < (l0.length : Int) then (basculeref01_Unpack.l1 k1 l0 a1 x5_1 x6_1 (wrap64 (rd l0 (ji4))) 0) else (none)) else (none)) = some r := by first | (rw [hji4] at H; exact H) | (simp only [hji4] at H ⊢; exact H)
    have hji4w : (IntKind.i64.wrap (Int.tdiv x6_1 8)) = ji4 := (i64_w _).trans hji4
    by_cases c5 : 0 ≤ (ji4)
    ·rw [if_pos c5] at H
     have c5b0 : decide (0 ≤ (ji4)) = true := decide_eq_true c5
     clear c5
     by_cases c6 : (ji4) < (l0.length : Int)
     ·rw [if_pos c6] at H
      have c6b0 : decide ((ji4) < (l0.length : Int)) = true := decide_eq_true c6
      clear c6
      have H' := Aside0.mk H
      clear H
      have p228 : 0 ≤ ((ji4) : Int) := of_decide_eq_true (by first | (with_reducible assumption) | assumption)
      have q228 : (ji4) < (l0.length : Int) := of_decide_eq_true (by first | (with_reducible assumption) | assumption)
      obtain ⟨ad228, e228, hx228_0⟩ := Kd.at_int HR0.out (ji4) p228 q228
      cases e228
      replace hx228_0 := (HB.out.cell (World.block_lt_of_cell? w _ hx228_0)).trans hx228_0
      replace p228 := eq_true p228
      replace q228 := eq_true q228
      go_wp2
      go_loopg [7, 8] k1 (fun kq v7 v8 w' => ∃ (x7_2 : Int) (x8_2 : Int), v7 = .int .i64 x7_2 ∧ v8 = .int .i64 x8_2 ∧ Aside0 (basculeref01_Unpack.l1 kq l0 a1 x5_1 x6_1 x7_2 x8_2 = some r) ∧ Aside0 (kq ≤ k1) ∧ Aside0 (Kd.R (Kd.int .i64) 3 w' w.heap.size (fun _ => True) u5 x5_1) ∧ Aside0 (Below w.heap.size w w'))
      case atStart => exact ⟨(wrap64 (rd l0 (ji4))), (0), (by first | rfl | (simp; done) | (simp only [← hji4] <;> (first | rfl | simp)) | (simp [*]; done)), (by first | rfl | (simp; done) | (simp [*]; done)), H', ⟨Nat.le_refl _⟩, ⟨kr_ HO_5⟩, ⟨bl0_ HB⟩⟩
      case round =>
       clear H'
       try clear p2
       try clear q2
       try clear hx2
       try clear c3
       try clear c3b0
       try clear c5
       try clear c5b0
       try clear c6
       try clear c6b0
       try clear p6
       try clear hx228_0
       try clear p2
       try clear p228
       try clear q228
       obtain ⟨x7_2, x8_2, rfl, rfl, HA, HK2, HO_5, HB⟩ := hrel
       cases gk with
       | zero => exact absurd HA.out (by simp [basculeref01_Unpack.l1])
       | succ k2 =>
        have H := HA.out
        clear HA
        simp only [basculeref01_Unpack.l1] at H
        by_cases c7 : x8_2 < (Int.tmod x6_1 8)
        ·rw [if_pos c7] at H
         have c7b0 : decide (x8_2 < (Int.tmod x6_1 8)) = true := decide_eq_true c7
         clear c7
         have H' := Aside0.mk H
         clear H
         go_wp2
         go_roundg k2
         case measure => have := HK1.out; have := HK2.out; omega
         case rel => exact ⟨(wrap64 (Int.tdiv x7_2 2)), (wrap64 (x8_2 + 1)), (by first | rfl | (simp; done) | (simp [*]; done)), (by first | rfl | (simp; done) | (simp [*]; done)), H', ⟨by have := HK1.out; have := HK2.out; omega⟩, ⟨kr_ HO_5⟩, ⟨bl0_ HB⟩⟩
        ·rw [if_neg c7] at H
         have c7b0 : decide (x8_2 < (Int.tmod x6_1 8)) = false := decide_eq_false c7
         clear c7
         by_cases c8 : x5_1.length < 17592186044416
         ·rw [if_pos c8] at H
          have LMc8 := Aside0.mk c8
          clear c8
          obtain ⟨y229, hy229⟩ : ∃ y_ : List Int, y_ = (x5_1 ++ [Int.tmod x7_2 2]) := ⟨_, rfl⟩
          replace H : (basculeref01_Unpack.l0 k2 l0 a1 y229 (wrap64 (x6_1 + 1))) = some r := by first | (rw [hy229]; with_reducible exact H) | (have H2_ := (Option.bind_some _ _).symm.trans H; rw [hy229]; with_reducible exact H2_) | (have H2_ := (Option.bind_some _ _).symm.trans H; with_reducible exact H2_) | with_reducible exact H | (rw [hy229]; exact H) | exact H
          have Ny229 := Aside0.mk hy229
          clear hy229
          have H' := Aside0.mk H
          clear H
          go_wp2_with (first | ((with_reducible refine gate_builtin (b := .append) (xs := #[.tmp 28, .tmp 31]) rfl ?_); at_builtin; refine Kd.R_append (Kd.int .i64) (w0 := w) w.heap.size rfl (.tmp 28) (.tmp 31) 22 3 (.int .i64 0) 8 rfl Try.underlying22 info3 rfl (by decide) (by omega) u5 x5_1 (Int.tmod x7_2 2) [.int .i64 (Int.tmod x7_2 2)] (fun _ => True) (fun _ => False) rfl rfl ?aP (fun _ hk => hk.elim) ?aF ?aO ?aB ?aS ?aL ?_; (case aP => exact rfl); (case aB => exact (bl0_ HB)); (case aF => exact (fun _ _ => trivial)); (case aO => exact (kr_ HO_5)); (case aS => exact (below_size (bl0_ HB))); (case aL => have := LMc8.out; omega); intro v230 w9 ho hb hg hat; rw [← Ny229.out] at ho; have n0_ := Aside0.mk (hb); have n1_ := Aside0.mk (ho); clear HB; clear HO_5; have HB := n0_; have HO231 := n1_; clear n0_ n1_; clear ho hb hg hat))
          go_roundg k2
          case measure => have := HK1.out; have := HK2.out; omega
          case rel => exact ⟨(y229), (wrap64 (x6_1 + 1)), (by first | rfl | (simp; done) | (simp [*]; done)), H', ⟨by have := HK1.out; have := HK2.out; omega⟩, ⟨kr_ HO231⟩, ⟨bl0_ HB⟩⟩
         ·rw [if_neg c8] at H
          exact absurd H (by simp)
     ·rw [if_neg c6] at H
      exact absurd H (by simp)
    ·rw [if_neg c5] at H
     exact absurd H (by simp)
   ·rw [if_neg c3] at H
    have c3b0 : decide (x6_1 < a1) = false := decide_eq_false c3
    clear c3
    obtain rfl := Option.some.inj H
    go_wp2
    go_ret
    exact ⟨_, er_, kr_ HO_5, bl0_ HB⟩
def basculeref03_read.l0 : Nat → List Int → List Int → Int → Option (List Int)
 | 0, _, _, _ => none
 | k + 1, x0, x3, x4 => if (wrap64 (x4 + 1)) < (x0.length : Int) then (if 0 ≤ x4 then (if x4 ≤ (x0.length : Int) then ((basculeref01_Number.f (x0.drop (x4 : Int).toNat)).bind fun t233 => (if x3.length < 17592186044416 then (basculeref03_read.l0 k x0 (x3 ++ [t233]) (wrap64 (x4 + 2))) else (none))) else (none)) else (none)) else (some x3)
def basculeref03_read.f (k : Nat) (l0 : List Int) : Option (List Int) := basculeref03_read.l0 k l0 ([] : List Int) 0
theorem basculeref03_read.mono_l : ∀ k, (∀ y0 y1 y2, LeO (basculeref03_read.l0 k y0 y1 y2) (basculeref03_read.l0 (k + 1) y0 y1 y2))
 | 0 => fun _ _ _ r h => by simp [basculeref03_read.l0] at h
 | k + 1 => by
  have ih0 := basculeref03_read.mono_l k
  ·intro y0 y1 y2
   unfold basculeref03_read.l0
   repeat' first
   | (with_reducible exact ih0 _ _ _)
   | (with_reducible exact LeO.refl _)
   | (with_reducible exact LeO.none _)
   | (with_reducible refine LeO.ite ?_ ?_)
   | (with_reducible refine LeO.bind ?_ (fun _ => ?_))
   | exact ih0 _ _ _
   | exact LeO.none _
   | refine LeO.ite ?_ ?_
   | refine LeO.bind ?_ (fun _ => ?_)
theorem basculeref03_read.mono : ∀ a0 k, LeO (basculeref03_read.f k a0) (basculeref03_read.f (k + 1) a0) := by
 intro a0 k
 have ih0 := basculeref03_read.mono_l k
 unfold basculeref03_read.f
 repeat' first
  | (with_reducible exact ih0 _ _ _)
  | (with_reducible exact LeO.refl _)
  | (with_reducible exact LeO.none _)
  | (with_reducible refine LeO.ite ?_ ?_)
  | (with_reducible refine LeO.bind ?_ (fun _ => ?_))
  | exact ih0 _ _ _
  | exact LeO.none _
  | refine LeO.ite ?_ ?_
  | refine LeO.bind ?_ (fun _ => ?_)
set_option maxHeartbeats 8000000 in
set_option maxRecDepth 100000 in
theorem basculeref03_read.calls (k : Nat) (A0 : Option Addr) (c0 : Nat) (l0 : List Int) (r : List Int) (w : World) (hr0 : Kd.C (Kd.int .u8) w A0 l0.length l0) (hc0 : l0.length ≤ c0) (h : basculeref03_read.f k l0 = some r) :
 Calls Try.prog 65 #[.slice A0 l0.length c0] w fun e w' => ∃ v0_ : Value, e = .returned (v0_) ∧ Kd.R (Kd.int .i64) 3 w' w.heap.size (fun _ => True) v0_ r ∧ Below w.heap.size w w' := by
 have HR0 := Aside0.mk hr0
 have HC0 := Aside0.mk hc0
 clear hr0 hc0
 have HB := Aside0.mk (Below.refl w.heap.size w)
 have H : (basculeref03_read.l0 k l0 ([] : List Int) 0) = some r := h
 clear h
 have H' := Aside0.mk H
 clear H
 go_enter Try.func65, Try.ntmps65
 go_wp2
 go_loopg [3, 4] k (fun kq v3 v4 w' => ∃ (x3_1 : List Int) (x4_1 : Int), v4 = .int .i64 x4_1 ∧ Aside0 (basculeref03_read.l0 kq l0 x3_1 x4_1 = some r) ∧ Aside0 (kq ≤ k) ∧ Aside0 (Kd.R (Kd.int .i64) 3 w' w.heap.size (fun _ => True) v3 x3_1) ∧ Aside0 (Below w.heap.size w w'))
 case atStart => exact ⟨(([] : List Int)), (0), (by first | rfl | (simp; done) | (simp [*]; done)), H', ⟨Nat.le_refl _⟩, ⟨by first | exact Kd.R_nil _ _ _ _ _ | exact Kd.N_nil _ _ _ _ _ | exact Kd.V_nil _ _ _ _ _ | exact Kd.Q_nil _ _ _ _ _ | exact Kd.S_nil _ _ _ _ _⟩, ⟨bl0_ HB⟩⟩
 case round =>
  clear H'
  obtain ⟨x3_1, x4_1, rfl, HA, HK1, HO_3, HB⟩ := hrel
  cases gk with
  | zero => exact absurd HA.out (by simp [basculeref03_read.l0])
  | succ k1 =>
   have H := HA.out
   clear HA
   simp only [basculeref03_read.l0] at H
   by_cases c2 : (wrap64 (x4_1 + 1)) < (l0.length : Int)
   ·rw [if_pos c2] at H
    have c2b0 : decide ((wrap64 (x4_1 + 1)) < (l0.length : Int)) = true := decide_eq_true c2
    clear c2
    by_cases c3 : 0 ≤ x4_1
    ·rw [if_pos c3] at H
     have c3b0 := eq_true c3
     have c3b1 : decide (0 ≤ x4_1) = true := decide_eq_true c3
     clear c3
     by_cases c4 : x4_1 ≤ (l0.length : Int)
     ·rw [if_pos c4] at H
      have c4b0 := eq_true c4
      have c4b1 : decide (x4_1 ≤ (l0.length : Int)) = true := decide_eq_true c4
      clear c4
      replace H := Option.bind_eq_some_iff.mp H
      obtain ⟨t233, A50, H⟩ := H
      replace H : (if x3_1.length < 17592186044416 then (basculeref03_read.l0 k1 l0 (x3_1 ++ [t233]) (wrap64 (x4_1 + 2))) else (none)) = some r := H
      have A5 := Aside0.mk A50
      clear A50
      by_cases c6 : x3_1.length < 17592186044416
      ·rw [if_pos c6] at H
       have LMc6 := Aside0.mk c6
       clear c6
       obtain ⟨y234, hy234⟩ : ∃ y_ : List Int, y_ = (x3_1 ++ [t233]) := ⟨_, rfl⟩
       replace H : (basculeref03_read.l0 k1 l0 y234 (wrap64 (x4_1 + 2))) = some r := by first | (rw [hy234]; with_reducible exact H) | (have H2_ := (Option.bind_some _ _).symm.trans H; rw [hy234]; with_reducible exact H2_) | (have H2_ := (Option.bind_some _ _).symm.trans H; with_reducible exact H2_) | with_reducible exact H | (rw [hy234]; exact H) | exact H
       have Ny234 := Aside0.mk hy234
       clear hy234
       have H' := Aside0.mk H
       clear H
       obtain ⟨i07, hi07, _, hsz7, _⟩ := info_parts info5
       obtain ⟨A7, hcut7, hA7, hC7⟩ := print_drop_of (P := Try.prog) (Value.int .u8) 0 58 5 .i64 Try.underlying58 hi07 hsz7 A0 c0 l0 x4_1 (of_decide_eq_true (by first | (with_reducible assumption) | assumption)) (of_decide_eq_true (by first | (with_reducible assumption) | assumption)) HC0.out
       have HR232 := Aside0.mk (Kd.C_of_reads (h1 := fun _ => rfl) (hA7 _ (Kd.reads_of_C HR0.out)))
       have HC232 := Aside0.mk hC7
       clear hA7 hC7 hi07 hsz7
       go_wp2_with (first | ((with_reducible refine gate_callee (f := 63) rfl ?_); refine goesL_ (some 16) rfl rfl Try.func63 (by kernel_rfl) rfl #[.slice A7 (l0.drop (x4_1 : Int).toNat).length (c0 - x4_1.toNat)] rfl (by (try simp only [List.map_toArray, List.map_cons, List.map_nil]); first | done | (rw [show (l0.drop (x4_1 : Int).toNat).length = (l0.length - x4_1.toNat) from List.length_drop] <;> rfl) | rfl | (simp only [List.length_drop, List.length_take]; rfl)) ?_; (with_reducible refine (basculeref01_Number.calls _ _ (l0.drop (x4_1 : Int).toNat) t233 _ ?side1 ?side2 A5.out).mono ?_); (case side1 => exact sc_ (Kd.C_below HR232.out HB.out)); (case side2 => exact HC232.out); rintro e w' ⟨rfl, ⟨nd, rfl⟩⟩; refine ⟨_, rfl, ?_⟩) | ((with_reducible refine gate_builtin (b := .append) (xs := #[.tmp 12, .tmp 17]) rfl ?_); at_builtin; refine Kd.R_append (Kd.int .i64) (w0 := w) w.heap.size rfl (.tmp 12) (.tmp 17) 22 3 (.int .i64 0) 8 rfl Try.underlying22 info3 rfl (by decide) (by omega) u3 x3_1 t233 [.int .i64 t233] (fun _ => True) (fun _ => False) rfl rfl ?aP (fun _ hk => hk.elim) ?aF ?aO ?aB ?aS ?aL ?_; (case aP => exact rfl); (case aB => exact (bl0_ HB)); (case aF => exact (fun _ _ => trivial)); (case aO => exact (kr_ HO_3)); (case aS => exact (below_size (bl0_ HB))); (case aL => have := LMc6.out; omega); intro v235 w8 ho hb hg hat; rw [← Ny234.out] at ho; have n0_ := Aside0.mk (hb); have n1_ := Aside0.mk (ho); clear HB; clear HO_3; have HB := n0_; have HO236 := n1_; clear n0_ n1_; clear ho hb hg hat))
       go_roundg k1
       case measure => have := HK1.out; omega
       case rel => exact ⟨(y234), (wrap64 (x4_1 + 2)), (by first | rfl | (simp; done) | (simp [*]; done)), H', ⟨by have := HK1.out; omega⟩, ⟨kr_ HO236⟩, ⟨bl0_ HB⟩⟩
      ·rw [if_neg c6] at H
       exact absurd H (by simp)
     ·rw [if_neg c4] at H
      exact absurd H (by simp)
    ·rw [if_neg c3] at H
     exact absurd H (by simp)
   ·rw [if_neg c2] at H
    have c2b0 : decide ((wrap64 (x4_1 + 1)) < (l0.length : Int)) = false := decide_eq_false c2
    clear c2
    obtain rfl := Option.some.inj H
    go_wp2
    go_ret
    exact ⟨_, er_, kr_ HO_3, bl0_ HB⟩
end Go.Proofs.Ytocicifgglkaeaa.PR
end

section
namespace Go.Proofs.Ytocicifgglkaeaa.PR
open Go.RowKit Go.Proofs.YtocicifgglkaeaaW.PrintWords Go.Proofs.YtocicifgglkaeaaW.PrintLast Go.Proofs.YtocicifgglkaeaaW.PrintMore
attribute [local go_sem] max2_int min2_int max_two min_two max_three min_three max_four min_four   
set_option linter.unusedVariables false
set_option linter.unusedSimpArgs false
open Go.Proofs.Ytocicifgglkaeaa.Ext Go.Proofs.Ytocicifgglkaeaa.PP Go.Proofs.Ytocicifgglkaeaa.ExtF Go.Proofs.Ytocicifgglkaeaa.PQ Go.Proofs.Ytocicifgglkaeaa.ExtM
def basculeref01_Ints.l0 : Nat → List Int → List Int → Int → Option (Bool)
 | 0, _, _, _ => none
 | k + 1, x0, x1, x5 => if x5 < (x0.length : Int) then (if 0 ≤ x5 then (if x5 < (x1.length : Int) then (if (rd x0 x5) = (rd x1 x5) then (basculeref01_Ints.l0 k x0 x1 (wrap64 (x5 + 1))) else (some false)) else (none)) else (none)) else (some true)
def basculeref01_Ints.f (k : Nat) (l0 : List Int) (l1 : List Int) : Option (Bool) := if (l0.length : Int) = (l1.length : Int) then (basculeref01_Ints.l0 k l0 l1 0) else (some false)
theorem basculeref01_Ints.mono_l : ∀ k, (∀ y0 y1 y2, LeO (basculeref01_Ints.l0 k y0 y1 y2) (basculeref01_Ints.l0 (k + 1) y0 y1 y2))
 | 0 => fun _ _ _ r h => by simp [basculeref01_Ints.l0] at h
 | k + 1 => by
  have ih0 := basculeref01_Ints.mono_l k
  ·intro y0 y1 y2
   unfold basculeref01_Ints.l0
   repeat' first
   | (with_reducible exact ih0 _ _ _)
   | (with_reducible exact LeO.refl _)
   | (with_reducible exact LeO.none _)
   | (with_reducible refine LeO.ite ?_ ?_)
   | (with_reducible refine LeO.bind ?_ (fun _ => ?_))
   | exact ih0 _ _ _
   | exact LeO.none _
   | refine LeO.ite ?_ ?_
   | refine LeO.bind ?_ (fun _ => ?_)
theorem basculeref01_Ints.mono : ∀ a0 a1 k, LeO (basculeref01_Ints.f k a0 a1) (basculeref01_Ints.f (k + 1) a0 a1) := by
 intro a0 a1 k
 have ih0 := basculeref01_Ints.mono_l k
 unfold basculeref01_Ints.f
 repeat' first
  | (with_reducible exact ih0 _ _ _)
  | (with_reducible exact LeO.refl _)
  | (with_reducible exact LeO.none _)
  | (with_reducible refine LeO.ite ?_ ?_)
  | (with_reducible refine LeO.bind ?_ (fun _ => ?_))
  | exact ih0 _ _ _
  | exact LeO.none _
  | refine LeO.ite ?_ ?_
  | refine LeO.bind ?_ (fun _ => ?_)
set_option maxHeartbeats 8000000 in
set_option maxRecDepth 100000 in
theorem basculeref01_Ints.calls (k : Nat) (A0 : Option Addr) (c0 : Nat) (l0 : List Int) (A1 : Option Addr) (c1 : Nat) (l1 : List Int) (r : Bool) (w : World) (hr0 : Kd.C (Kd.int .i64) w A0 l0.length l0) (hc0 : l0.length ≤ c0) (hr1 : Kd.C (Kd.int .i64) w A1 l1.length l1) (hc1 : l1.length ≤ c1) (h : basculeref01_Ints.f k l0 l1 = some r) :
 Calls Try.prog 42 #[.slice A0 l0.length c0, .slice A1 l1.length c1] w fun e w' => e = .returned (.bool r) ∧ Drawn0 w w' := by
 have HR0 := Aside0.mk hr0
 have HC0 := Aside0.mk hc0
 clear hr0 hc0
 have HR1 := Aside0.mk hr1
 have HC1 := Aside0.mk hc1
 clear hr1 hc1
 have H : (if (l0.length : Int) = (l1.length : Int) then (basculeref01_Ints.l0 k l0 l1 0) else (some false)) = some r := h
 clear h
 by_cases c3 : (l0.length : Int) = (l1.length : Int)
 ·rw [if_pos c3] at H
  have c3b0 : ((l0.length : Int) == (l1.length : Int)) = true := beq_iff_eq.mpr c3
  have c3b1 : ((l0.length : Int) != (l1.length : Int)) = false := bne_eq_false_iff_eq.mpr c3
  have c3b2 : (l0.length == l1.length) = true := by first | simpa using c3 | (simp at c3 ⊢; omega)
  clear c3
  have H' := Aside0.mk H
  clear H
  go_enter Try.func42, Try.ntmps42
  go_wp2
  repeat (go_quiet (fail); try go_wp2)
  go_loopg [5] k (fun kq v5 w' => ∃ (x5_1 : Int), v5 = .int .i64 x5_1 ∧ Aside0 (basculeref01_Ints.l0 kq l0 l1 x5_1 = some r) ∧ Aside0 (kq ≤ k) ∧ Drawn0 w w')
  case atStart => exact ⟨(0), (by first | rfl | (simp; done) | (simp [*]; done)), H', ⟨Nat.le_refl _⟩, by repeat (first | exact Drawn0.refl _ | apply Drawn0.step)⟩
  case round =>
   clear H'
   try clear c1
   try clear p2
   try clear c3
   try clear c3b0
   try clear c3b1
   try clear c3b2
   obtain ⟨x5_1, rfl, HA, HK1, ⟨m1, rfl⟩⟩ := hrel
   cases gk with
   | zero => exact absurd HA.out (by simp [basculeref01_Ints.l0])
   | succ k1 =>
    have H := HA.out
    clear HA
    simp only [basculeref01_Ints.l0] at H
    by_cases c4 : x5_1 < (l0.length : Int)
    ·rw [if_pos c4] at H
     have c4b0 : decide (x5_1 < (l0.length : Int)) = true := decide_eq_true c4
     clear c4
     by_cases c5 : 0 ≤ x5_1
     ·rw [if_pos c5] at H
      have c5b0 : decide (0 ≤ x5_1) = true := decide_eq_true c5
      clear c5
      by_cases c6 : x5_1 < (l1.length : Int)
      ·rw [if_pos c6] at H
       have c6b0 : decide (x5_1 < (l1.length : Int)) = true := decide_eq_true c6
       clear c6
       by_cases c7 : (rd l0 x5_1) = (rd l1 x5_1)
       ·rw [if_pos c7] at H
        have c7b0 : ((rd l0 x5_1) == (rd l1 x5_1)) = true := beq_iff_eq.mpr c7
        have c7b1 : ((rd l0 x5_1) != (rd l1 x5_1)) = false := bne_eq_false_iff_eq.mpr c7
        clear c7
        have H' := Aside0.mk H
        clear H
        have p385 : 0 ≤ (x5_1 : Int) := of_decide_eq_true (by first | (with_reducible assumption) | assumption)
        have q385 : x5_1 < (l0.length : Int) := of_decide_eq_true (by first | (with_reducible assumption) | assumption)
        obtain ⟨ad385, e385, hx385_0⟩ := Kd.at_int HR0.out x5_1 p385 q385
        cases e385
        replace p385 := eq_true p385
        replace q385 := eq_true q385
        have p386 : 0 ≤ (x5_1 : Int) := of_decide_eq_true (by first | (with_reducible assumption) | assumption)
        have q386 : x5_1 < (l1.length : Int) := of_decide_eq_true (by first | (with_reducible assumption) | assumption)
        obtain ⟨ad386, e386, hx386_0⟩ := Kd.at_int HR1.out x5_1 p386 q386
        cases e386
        replace p386 := eq_true p386
        replace q386 := eq_true q386
        go_wp2
        repeat (go_quiet (fail); try go_wp2)
        go_roundg k1
        case measure => have := HK1.out; omega
        case rel => exact ⟨(wrap64 (x5_1 + 1)), (by first | rfl | (simp; done) | (simp [*]; done)), H', ⟨by have := HK1.out; omega⟩, by repeat (first | exact Drawn0.refl _ | apply Drawn0.step)⟩
       ·rw [if_neg c7] at H
        have c7b0 : ((rd l0 x5_1) == (rd l1 x5_1)) = false := beq_eq_false_iff_ne.mpr c7
        have c7b1 : ((rd l0 x5_1) != (rd l1 x5_1)) = true := bne_iff_ne.mpr c7
        obtain rfl := Option.some.inj H
        have p385 : 0 ≤ (x5_1 : Int) := of_decide_eq_true (by first | (with_reducible assumption) | assumption)
        have q385 : x5_1 < (l0.length : Int) := of_decide_eq_true (by first | (with_reducible assumption) | assumption)
        obtain ⟨ad385, e385, hx385_0⟩ := Kd.at_int HR0.out x5_1 p385 q385
        cases e385
        replace p385 := eq_true p385
        replace q385 := eq_true q385
        have p386 : 0 ≤ (x5_1 : Int) := of_decide_eq_true (by first | (with_reducible assumption) | assumption)
        have q386 : x5_1 < (l1.length : Int) := of_decide_eq_true (by first | (with_reducible assumption) | assumption)
        obtain ⟨ad386, e386, hx386_0⟩ := Kd.at_int HR1.out x5_1 p386 q386
        cases e386
        replace p386 := eq_true p386
        replace q386 := eq_true q386
        go_wp2
        repeat (go_quiet (fail); try go_wp2)
        go_ret
        exact ⟨by first | rfl | (simp; done) | (simp [*]; done), by repeat (first | exact Drawn0.refl _ | apply Drawn0.step)⟩
      ·rw [if_neg c6] at H
       exact absurd H (by simp)
     ·rw [if_neg c5] at H
      exact absurd H (by simp)
    ·rw [if_neg c4] at H
     have c4b0 : decide (x5_1 < (l0.length : Int)) = false := decide_eq_false c4
     clear c4
     obtain rfl := Option.some.inj H
     go_wp2
     repeat (go_quiet (fail); try go_wp2)
     go_ret
     exact ⟨by first | rfl | (simp; done) | (simp [*]; done), by repeat (first | exact Drawn0.refl _ | apply Drawn0.step)⟩
 ·rw [if_neg c3] at H
  have c3b0 : ((l0.length : Int) == (l1.length : Int)) = false := beq_eq_false_iff_ne.mpr c3
  have c3b1 : ((l0.length : Int) != (l1.length : Int)) = true := bne_iff_ne.mpr c3
  have c3b2 : (l0.length == l1.length) = false := by first | simpa using c3 | (simp at c3 ⊢; omega)
  obtain rfl := Option.some.inj H
  go_enter Try.func42, Try.ntmps42
  go_wp2
  repeat (go_quiet (fail); try go_wp2)
  go_ret
  exact ⟨by first | rfl | (simp; done) | (simp [*]; done), by repeat (first | exact Drawn0.refl _ | apply Drawn0.step)⟩
def basculeref03_Same.f (k : Nat) (a0_0 : Int) (a0_1 : Int) (a0_2 : Int) (l0_3 : List Int) (a0_4 : Int) (a0_5 : Int) (a0_6 : Int) (a1_0 : Int) (a1_1 : Int) (a1_2 : Int) (l1_3 : List Int) (a1_4 : Int) (a1_5 : Int) (a1_6 : Int) : Option (Bool) := if a0_0 = a1_0 then (if a0_1 = a1_1 then (if a0_2 = a1_2 then (if a0_4 = a1_4 then (if a0_5 = a1_5 then (if a0_6 = a1_6 then ((basculeref01_Ints.f k l0_3 l1_3).bind fun t392 => (some t392)) else (some false)) else (some false)) else (some false)) else (some false)) else (some false)) else (some false)
theorem basculeref03_Same.mono : ∀ a0 a1 a2 a3 a4 a5 a6 a7 a8 a9 a10 a11 a12 a13 k, LeO (basculeref03_Same.f k a0 a1 a2 a3 a4 a5 a6 a7 a8 a9 a10 a11 a12 a13) (basculeref03_Same.f (k + 1) a0 a1 a2 a3 a4 a5 a6 a7 a8 a9 a10 a11 a12 a13) := by
 intro a0 a1 a2 a3 a4 a5 a6 a7 a8 a9 a10 a11 a12 a13 k
 unfold basculeref03_Same.f
 repeat' first
  | (with_reducible exact basculeref01_Ints.mono _ _ _)
  | (with_reducible exact LeO.refl _)
  | (with_reducible exact LeO.none _)
  | (with_reducible refine LeO.ite ?_ ?_)
  | (with_reducible refine LeO.bind ?_ (fun _ => ?_))
  | exact basculeref01_Ints.mono _ _ _
  | exact LeO.none _
  | refine LeO.ite ?_ ?_
  | refine LeO.bind ?_ (fun _ => ?_)
set_option maxHeartbeats 8000000 in
set_option maxRecDepth 100000 in
theorem basculeref03_Same.calls (k : Nat) (a0_0 : Int) (a0_1 : Int) (a0_2 : Int) (A0_3 : Option Addr) (c0_3 : Nat) (l0_3 : List Int) (a0_4 : Int) (a0_5 : Int) (a0_6 : Int) (a1_0 : Int) (a1_1 : Int) (a1_2 : Int) (A1_3 : Option Addr) (c1_3 : Nat) (l1_3 : List Int) (a1_4 : Int) (a1_5 : Int) (a1_6 : Int) (r : Bool) (w : World) (hr0_3 : Kd.C (Kd.int .i64) w A0_3 l0_3.length l0_3) (hc0_3 : l0_3.length ≤ c0_3) (hr1_3 : Kd.C (Kd.int .i64) w A1_3 l1_3.length l1_3) (hc1_3 : l1_3.length ≤ c1_3) (h : basculeref03_Same.f k a0_0 a0_1 a0_2 l0_3 a0_4 a0_5 a0_6 a1_0 a1_1 a1_2 l1_3 a1_4 a1_5 a1_6 = some r) :
 Calls Try.prog 31 #[.agg #[.int .i64 a0_0, .int .i64 a0_1, .int .i64 a0_2, .slice A0_3 l0_3.length c0_3, .int .i64 a0_4, .int .i64 a0_5, .int .i64 a0_6], .agg #[.int .i64 a1_0, .int .i64 a1_1, .int .i64 a1_2, .slice A1_3 l1_3.length c1_3, .int .i64 a1_4, .int .i64 a1_5, .int .i64 a1_6]] w fun e w' => e = .returned (.bool r) ∧ Below w.heap.size w w' := by
 have hu24 := Try.underlying24
 have HR0_3 := Aside0.mk hr0_3
 have HC0_3 := Aside0.mk hc0_3
 clear hr0_3 hc0_3
 have HR1_3 := Aside0.mk hr1_3
 have HC1_3 := Aside0.mk hc1_3
 clear hr1_3 hc1_3
 have HB := Aside0.mk (Below.refl w.heap.size w)
 have H : (if a0_0 = a1_0 then (if a0_1 = a1_1 then (if a0_2 = a1_2 then (if a0_4 = a1_4 then (if a0_5 = a1_5 then (if a0_6 = a1_6 then ((basculeref01_Ints.f k l0_3 l1_3).bind fun t392 => (some t392)) else (some false)) else (some false)) else (some false)) else (some false)) else (some false)) else (some false)) = some r := h
 clear h
 by_cases c3 : a0_0 = a1_0
 ·rw [if_pos c3] at H
  have c3b0 : (a0_0 == a1_0) = true := beq_iff_eq.mpr c3
  have c3b1 : (a0_0 != a1_0) = false := bne_eq_false_iff_eq.mpr c3
  clear c3
  by_cases c4 : a0_1 = a1_1
  ·rw [if_pos c4] at H
   have c4b0 : (a0_1 == a1_1) = true := beq_iff_eq.mpr c4
   have c4b1 : (a0_1 != a1_1) = false := bne_eq_false_iff_eq.mpr c4
   clear c4
   by_cases c5 : a0_2 = a1_2
   ·rw [if_pos c5] at H
    have c5b0 : (a0_2 == a1_2) = true := beq_iff_eq.mpr c5
    have c5b1 : (a0_2 != a1_2) = false := bne_eq_false_iff_eq.mpr c5
    clear c5
    by_cases c6 : a0_4 = a1_4
    ·rw [if_pos c6] at H
     have c6b0 : (a0_4 == a1_4) = true := beq_iff_eq.mpr c6
     have c6b1 : (a0_4 != a1_4) = false := bne_eq_false_iff_eq.mpr c6
     clear c6
     by_cases c7 : a0_5 = a1_5
     ·rw [if_pos c7] at H
      have c7b0 : (a0_5 == a1_5) = true := beq_iff_eq.mpr c7
      have c7b1 : (a0_5 != a1_5) = false := bne_eq_false_iff_eq.mpr c7
      clear c7
      by_cases c8 : a0_6 = a1_6
      ·rw [if_pos c8] at H
       have c8b0 : (a0_6 == a1_6) = true := beq_iff_eq.mpr c8
       have c8b1 : (a0_6 != a1_6) = false := bne_eq_false_iff_eq.mpr c8
       clear c8
       replace H := Option.bind_eq_some_iff.mp H
       obtain ⟨t392, A90, H⟩ := H
       replace H : (some t392) = some r := H
       have A9 := Aside0.mk A90
       clear A90
       obtain rfl := Option.some.inj H
       go_enter Try.func31, Try.ntmps31
       go_wp2_with (first | ((with_reducible refine gate_dst (N := 2) rfl ?_); refine bx_ (N := 2) (cs := #[.int .i64 a0_0, .int .i64 a0_1, .int .i64 a0_2, .slice A0_3 l0_3.length c0_3, .int .i64 a0_4, .int .i64 a0_5, .int .i64 a0_6]) (t := 24) ?_; intro gb390 hg w10 hbox hb; have n0_ := Aside0.mk (below_step (bl0_ HB) hb); have n1_ := Aside0.mk (hbox); have n2_ := Aside0.mk ((by rw [hg]; exact (below_size (bl0_ HB)) : w.heap.size ≤ gb390)); have n3_ := Aside0.mk ((by rw [hg]; exact (below_size (bl0_ HB)) : w.heap.size ≤ gb390)); clear HB; have HB := n0_; have BK390 := n1_; have GW390 := n2_; have GE390 := n3_; clear n0_ n1_ n2_ n3_; clear hb hbox hg) | ((with_reducible refine gate_dst (N := 3) rfl ?_); refine bx_ (N := 3) (cs := #[.int .i64 a1_0, .int .i64 a1_1, .int .i64 a1_2, .slice A1_3 l1_3.length c1_3, .int .i64 a1_4, .int .i64 a1_5, .int .i64 a1_6]) (t := 24) ?_; intro gb391 hg w11 hbox hb; have n0_ := Aside0.mk (blk_below (g := gb390) (bk_ BK390) hb); have n1_ := Aside0.mk (below_step (bl1_ HB GE390) hb); have n2_ := Aside0.mk (hbox); have n3_ := Aside0.mk ((by rw [hg]; exact (below_size (bl1_ HB GE390)) : w.heap.size ≤ gb391)); have n4_ := Aside0.mk ((by rw [hg]; exact (below_size (bl1_ HB GE390)) : w.heap.size ≤ gb391)); have n5_ := Aside0.mk ((by rw [hg]; exact Nat.ne_of_lt (blk_lt (g := gb390) (bk_ BK390)) : gb390 ≠ gb391)); have n6_ := Aside0.mk ((by rw [hg]; exact Nat.ne_of_gt (blk_lt (g := gb390) (bk_ BK390)) : gb391 ≠ gb390)); clear BK390; clear HB; have BK390 := n0_; have HB := n1_; have BK391 := n2_; have GW391 := n3_; have GE391 := n4_; have NB390_391 := n5_; have NB391_390 := n6_; clear n0_ n1_ n2_ n3_ n4_ n5_ n6_; clear hb hbox hg; have hnb12 := NB390_391.out; have hnc12 := NB391_390.out; refine cz7_ BK390.out ?_; intro hcz13_0 hcz13_1 hcz13_2 hcz13_3 hcz13_4 hcz13_5 hcz13_6 hfz13_0 hfz13_1 hfz13_2 hfz13_3 hfz13_4 hfz13_5 hfz13_6; refine cz7_ BK391.out ?_; intro hcz14_0 hcz14_1 hcz14_2 hcz14_3 hcz14_4 hcz14_5 hcz14_6 hfz14_0 hfz14_1 hfz14_2 hfz14_3 hfz14_4 hfz14_5 hfz14_6) | (go_at_call 42; (with_reducible refine (basculeref01_Ints.calls k _ _ l0_3 _ _ l1_3 t392 _ ?side1 ?side2 ?side3 ?side4 A9.out).mono ?_); (case side1 => exact sc_ (Kd.C_below HR0_3.out HB.out)); (case side2 => exact HC0_3.out); (case side3 => exact sc_ (Kd.C_below HR1_3.out HB.out)); (case side4 => exact HC1_3.out); rintro e w' ⟨rfl, ⟨nd, rfl⟩⟩))
       go_ret
       exact ⟨er_, bl2_ HB GE390 GE391⟩
      ·rw [if_neg c8] at H
       have c8b0 : (a0_6 == a1_6) = false := beq_eq_false_iff_ne.mpr c8
       have c8b1 : (a0_6 != a1_6) = true := bne_iff_ne.mpr c8
       obtain rfl := Option.some.inj H
       go_enter Try.func31, Try.ntmps31
       go_wp2_with (first | ((with_reducible refine gate_dst (N := 2) rfl ?_); refine bx_ (N := 2) (cs := #[.int .i64 a0_0, .int .i64 a0_1, .int .i64 a0_2, .slice A0_3 l0_3.length c0_3, .int .i64 a0_4, .int .i64 a0_5, .int .i64 a0_6]) (t := 24) ?_; intro gb390 hg w15 hbox hb; have n0_ := Aside0.mk (below_step (bl0_ HB) hb); have n1_ := Aside0.mk (hbox); have n2_ := Aside0.mk ((by rw [hg]; exact (below_size (bl0_ HB)) : w.heap.size ≤ gb390)); have n3_ := Aside0.mk ((by rw [hg]; exact (below_size (bl0_ HB)) : w.heap.size ≤ gb390)); clear HB; have HB := n0_; have BK390 := n1_; have GW390 := n2_; have GE390 := n3_; clear n0_ n1_ n2_ n3_; clear hb hbox hg) | ((with_reducible refine gate_dst (N := 3) rfl ?_); refine bx_ (N := 3) (cs := #[.int .i64 a1_0, .int .i64 a1_1, .int .i64 a1_2, .slice A1_3 l1_3.length c1_3, .int .i64 a1_4, .int .i64 a1_5, .int .i64 a1_6]) (t := 24) ?_; intro gb391 hg w16 hbox hb; have n0_ := Aside0.mk (blk_below (g := gb390) (bk_ BK390) hb); have n1_ := Aside0.mk (below_step (bl1_ HB GE390) hb); have n2_ := Aside0.mk (hbox); have n3_ := Aside0.mk ((by rw [hg]; exact (below_size (bl1_ HB GE390)) : w.heap.size ≤ gb391)); have n4_ := Aside0.mk ((by rw [hg]; exact (below_size (bl1_ HB GE390)) : w.heap.size ≤ gb391)); have n5_ := Aside0.mk ((by rw [hg]; exact Nat.ne_of_lt (blk_lt (g := gb390) (bk_ BK390)) : gb390 ≠ gb391)); have n6_ := Aside0.mk ((by rw [hg]; exact Nat.ne_of_gt (blk_lt (g := gb390) (bk_ BK390)) : gb391 ≠ gb390)); clear BK390; clear HB; have BK390 := n0_; have HB := n1_; have BK391 := n2_; have GW391 := n3_; have GE391 := n4_; have NB390_391 := n5_; have NB391_390 := n6_; clear n0_ n1_ n2_ n3_ n4_ n5_ n6_; clear hb hbox hg; have hnb17 := NB390_391.out; have hnc17 := NB391_390.out; refine cz7_ BK390.out ?_; intro hcz18_0 hcz18_1 hcz18_2 hcz18_3 hcz18_4 hcz18_5 hcz18_6 hfz18_0 hfz18_1 hfz18_2 hfz18_3 hfz18_4 hfz18_5 hfz18_6; refine cz7_ BK391.out ?_; intro hcz19_0 hcz19_1 hcz19_2 hcz19_3 hcz19_4 hcz19_5 hcz19_6 hfz19_0 hfz19_1 hfz19_2 hfz19_3 hfz19_4 hfz19_5 hfz19_6))
       go_ret
       exact ⟨er_, bl2_ HB GE390 GE391⟩
     ·rw [if_neg c7] at H
      have c7b0 : (a0_5 == a1_5) = false := beq_eq_false_iff_ne.mpr c7
      have c7b1 : (a0_5 != a1_5) = true := bne_iff_ne.mpr c7
      obtain rfl := Option.some.inj H
      go_enter Try.func31, Try.ntmps31
      go_wp2_with (first | ((with_reducible refine gate_dst (N := 2) rfl ?_); refine bx_ (N := 2) (cs := #[.int .i64 a0_0, .int .i64 a0_1, .int .i64 a0_2, .slice A0_3 l0_3.length c0_3, .int .i64 a0_4, .int .i64 a0_5, .int .i64 a0_6]) (t := 24) ?_; intro gb390 hg w20 hbox hb; have n0_ := Aside0.mk (below_step (bl0_ HB) hb); have n1_ := Aside0.mk (hbox); have n2_ := Aside0.mk ((by rw [hg]; exact (below_size (bl0_ HB)) : w.heap.size ≤ gb390)); have n3_ := Aside0.mk ((by rw [hg]; exact (below_size (bl0_ HB)) : w.heap.size ≤ gb390)); clear HB; have HB := n0_; have BK390 := n1_; have GW390 := n2_; have GE390 := n3_; clear n0_ n1_ n2_ n3_; clear hb hbox hg) | ((with_reducible refine gate_dst (N := 3) rfl ?_); refine bx_ (N := 3) (cs := #[.int .i64 a1_0, .int .i64 a1_1, .int .i64 a1_2, .slice A1_3 l1_3.length c1_3, .int .i64 a1_4, .int .i64 a1_5, .int .i64 a1_6]) (t := 24) ?_; intro gb391 hg w21 hbox hb; have n0_ := Aside0.mk (blk_below (g := gb390) (bk_ BK390) hb); have n1_ := Aside0.mk (below_step (bl1_ HB GE390) hb); have n2_ := Aside0.mk (hbox); have n3_ := Aside0.mk ((by rw [hg]; exact (below_size (bl1_ HB GE390)) : w.heap.size ≤ gb391)); have n4_ := Aside0.mk ((by rw [hg]; exact (below_size (bl1_ HB GE390)) : w.heap.size ≤ gb391)); have n5_ := Aside0.mk ((by rw [hg]; exact Nat.ne_of_lt (blk_lt (g := gb390) (bk_ BK390)) : gb390 ≠ gb391)); have n6_ := Aside0.mk ((by rw [hg]; exact Nat.ne_of_gt (blk_lt (g := gb390) (bk_ BK390)) : gb391 ≠ gb390)); clear BK390; clear HB; have BK390 := n0_; have HB := n1_; have BK391 := n2_; have GW391 := n3_; have GE391 := n4_; have NB390_391 := n5_; have NB391_390 := n6_; clear n0_ n1_ n2_ n3_ n4_ n5_ n6_; clear hb hbox hg; have hnb22 := NB390_391.out; have hnc22 := NB391_390.out; refine cz7_ BK390.out ?_; intro hcz23_0 hcz23_1 hcz23_2 hcz23_3 hcz23_4 hcz23_5 hcz23_6 hfz23_0 hfz23_1 hfz23_2 hfz23_3 hfz23_4 hfz23_5 hfz23_6; refine cz7_ BK391.out ?_; intro hcz24_0 hcz24_1 hcz24_2 hcz24_3 hcz24_4 hcz24_5 hcz24_6 hfz24_0 hfz24_1 hfz24_2 hfz24_3 hfz24_4 hfz24_5 hfz24_6))
      go_ret
      exact ⟨er_, bl2_ HB GE390 GE391⟩
    ·rw [if_neg c6] at H
     have c6b0 : (a0_4 == a1_4) = false := beq_eq_false_iff_ne.mpr c6
     have c6b1 : (a0_4 != a1_4) = true := bne_iff_ne.mpr c6
     obtain rfl := Option.some.inj H
     go_enter Try.func31, Try.ntmps31
     go_wp2_with (first | ((with_reducible refine gate_dst (N := 2) rfl ?_); refine bx_ (N := 2) (cs := #[.int .i64 a0_0, .int .i64 a0_1, .int .i64 a0_2, .slice A0_3 l0_3.length c0_3, .int .i64 a0_4, .int .i64 a0_5, .int .i64 a0_6]) (t := 24) ?_; intro gb390 hg w25 hbox hb; have n0_ := Aside0.mk (below_step (bl0_ HB) hb); have n1_ := Aside0.mk (hbox); have n2_ := Aside0.mk ((by rw [hg]; exact (below_size (bl0_ HB)) : w.heap.size ≤ gb390)); have n3_ := Aside0.mk ((by rw [hg]; exact (below_size (bl0_ HB)) : w.heap.size ≤ gb390)); clear HB; have HB := n0_; have BK390 := n1_; have GW390 := n2_; have GE390 := n3_; clear n0_ n1_ n2_ n3_; clear hb hbox hg) | ((with_reducible refine gate_dst (N := 3) rfl ?_); refine bx_ (N := 3) (cs := #[.int .i64 a1_0, .int .i64 a1_1, .int .i64 a1_2, .slice A1_3 l1_3.length c1_3, .int .i64 a1_4, .int .i64 a1_5, .int .i64 a1_6]) (t := 24) ?_; intro gb391 hg w26 hbox hb; have n0_ := Aside0.mk (blk_below (g := gb390) (bk_ BK390) hb); have n1_ := Aside0.mk (below_step (bl1_ HB GE390) hb); have n2_ := Aside0.mk (hbox); have n3_ := Aside0.mk ((by rw [hg]; exact (below_size (bl1_ HB GE390)) : w.heap.size ≤ gb391)); have n4_ := Aside0.mk ((by rw [hg]; exact (below_size (bl1_ HB GE390)) : w.heap.size ≤ gb391)); have n5_ := Aside0.mk ((by rw [hg]; exact Nat.ne_of_lt (blk_lt (g := gb390) (bk_ BK390)) : gb390 ≠ gb391)); have n6_ := Aside0.mk ((by rw [hg]; exact Nat.ne_of_gt (blk_lt (g := gb390) (bk_ BK390)) : gb391 ≠ gb390)); clear BK390; clear HB; have BK390 := n0_; have HB := n1_; have BK391 := n2_; have GW391 := n3_; have GE391 := n4_; have NB390_391 := n5_; have NB391_390 := n6_; clear n0_ n1_ n2_ n3_ n4_ n5_ n6_; clear hb hbox hg; have hnb27 := NB390_391.out; have hnc27 := NB391_390.out; refine cz7_ BK390.out ?_; intro hcz28_0 hcz28_1 hcz28_2 hcz28_3 hcz28_4 hcz28_5 hcz28_6 hfz28_0 hfz28_1 hfz28_2 hfz28_3 hfz28_4 hfz28_5 hfz28_6; refine cz7_ BK391.out ?_; intro hcz29_0 hcz29_1 hcz29_2 hcz29_3 hcz29_4 hcz29_5 hcz29_6 hfz29_0 hfz29_1 hfz29_2 hfz29_3 hfz29_4 hfz29_5 hfz29_6))
     go_ret
     exact ⟨er_, bl2_ HB GE390 GE391⟩
   ·rw [if_neg c5] at H
    have c5b0 : (a0_2 == a1_2) = false := beq_eq_false_iff_ne.mpr c5
    have c5b1 : (a0_2 != a1_2) = true := bne_iff_ne.mpr c5
    obtain rfl := Option.some.inj H
    go_enter Try.func31, Try.ntmps31
    go_wp2_with (first | ((with_reducible refine gate_dst (N := 2) rfl ?_); refine bx_ (N := 2) (cs := #[.int .i64 a0_0, .int .i64 a0_1, .int .i64 a0_2, .slice A0_3 l0_3.length c0_3, .int .i64 a0_4, .int .i64 a0_5, .int .i64 a0_6]) (t := 24) ?_; intro gb390 hg w30 hbox hb; have n0_ := Aside0.mk (below_step (bl0_ HB) hb); have n1_ := Aside0.mk (hbox); have n2_ := Aside0.mk ((by rw [hg]; exact (below_size (bl0_ HB)) : w.heap.size ≤ gb390)); have n3_ := Aside0.mk ((by rw [hg]; exact (below_size (bl0_ HB)) : w.heap.size ≤ gb390)); clear HB; have HB := n0_; have BK390 := n1_; have GW390 := n2_; have GE390 := n3_; clear n0_ n1_ n2_ n3_; clear hb hbox hg) | ((with_reducible refine gate_dst (N := 3) rfl ?_); refine bx_ (N := 3) (cs := #[.int .i64 a1_0, .int .i64 a1_1, .int .i64 a1_2, .slice A1_3 l1_3.length c1_3, .int .i64 a1_4, .int .i64 a1_5, .int .i64 a1_6]) (t := 24) ?_; intro gb391 hg w31 hbox hb; have n0_ := Aside0.mk (blk_below (g := gb390) (bk_ BK390) hb); have n1_ := Aside0.mk (below_step (bl1_ HB GE390) hb); have n2_ := Aside0.mk (hbox); have n3_ := Aside0.mk ((by rw [hg]; exact (below_size (bl1_ HB GE390)) : w.heap.size ≤ gb391)); have n4_ := Aside0.mk ((by rw [hg]; exact (below_size (bl1_ HB GE390)) : w.heap.size ≤ gb391)); have n5_ := Aside0.mk ((by rw [hg]; exact Nat.ne_of_lt (blk_lt (g := gb390) (bk_ BK390)) : gb390 ≠ gb391)); have n6_ := Aside0.mk ((by rw [hg]; exact Nat.ne_of_gt (blk_lt (g := gb390) (bk_ BK390)) : gb391 ≠ gb390)); clear BK390; clear HB; have BK390 := n0_; have HB := n1_; have BK391 := n2_; have GW391 := n3_; have GE391 := n4_; have NB390_391 := n5_; have NB391_390 := n6_; clear n0_ n1_ n2_ n3_ n4_ n5_ n6_; clear hb hbox hg; have hnb32 := NB390_391.out; have hnc32 := NB391_390.out; refine cz7_ BK390.out ?_; intro hcz33_0 hcz33_1 hcz33_2 hcz33_3 hcz33_4 hcz33_5 hcz33_6 hfz33_0 hfz33_1 hfz33_2 hfz33_3 hfz33_4 hfz33_5 hfz33_6; refine cz7_ BK391.out ?_; intro hcz34_0 hcz34_1 hcz34_2 hcz34_3 hcz34_4 hcz34_5 hcz34_6 hfz34_0 hfz34_1 hfz34_2 hfz34_3 hfz34_4 hfz34_5 hfz34_6))
    go_ret
    exact ⟨er_, bl2_ HB GE390 GE391⟩
  ·rw [if_neg c4] at H
   have c4b0 : (a0_1 == a1_1) = false := beq_eq_false_iff_ne.mpr c4
   have c4b1 : (a0_1 != a1_1) = true := bne_iff_ne.mpr c4
   obtain rfl := Option.some.inj H
   go_enter Try.func31, Try.ntmps31
   go_wp2_with (first | ((with_reducible refine gate_dst (N := 2) rfl ?_); refine bx_ (N := 2) (cs := #[.int .i64 a0_0, .int .i64 a0_1, .int .i64 a0_2, .slice A0_3 l0_3.length c0_3, .int .i64 a0_4, .int .i64 a0_5, .int .i64 a0_6]) (t := 24) ?_; intro gb390 hg w35 hbox hb; have n0_ := Aside0.mk (below_step (bl0_ HB) hb); have n1_ := Aside0.mk (hbox); have n2_ := Aside0.mk ((by rw [hg]; exact (below_size (bl0_ HB)) : w.heap.size ≤ gb390)); have n3_ := Aside0.mk ((by rw [hg]; exact (below_size (bl0_ HB)) : w.heap.size ≤ gb390)); clear HB; have HB := n0_; have BK390 := n1_; have GW390 := n2_; have GE390 := n3_; clear n0_ n1_ n2_ n3_; clear hb hbox hg) | ((with_reducible refine gate_dst (N := 3) rfl ?_); refine bx_ (N := 3) (cs := #[.int .i64 a1_0, .int .i64 a1_1, .int .i64 a1_2, .slice A1_3 l1_3.length c1_3, .int .i64 a1_4, .int .i64 a1_5, .int .i64 a1_6]) (t := 24) ?_; intro gb391 hg w36 hbox hb; have n0_ := Aside0.mk (blk_below (g := gb390) (bk_ BK390) hb); have n1_ := Aside0.mk (below_step (bl1_ HB GE390) hb); have n2_ := Aside0.mk (hbox); have n3_ := Aside0.mk ((by rw [hg]; exact (below_size (bl1_ HB GE390)) : w.heap.size ≤ gb391)); have n4_ := Aside0.mk ((by rw [hg]; exact (below_size (bl1_ HB GE390)) : w.heap.size ≤ gb391)); have n5_ := Aside0.mk ((by rw [hg]; exact Nat.ne_of_lt (blk_lt (g := gb390) (bk_ BK390)) : gb390 ≠ gb391)); have n6_ := Aside0.mk ((by rw [hg]; exact Nat.ne_of_gt (blk_lt (g := gb390) (bk_ BK390)) : gb391 ≠ gb390)); clear BK390; clear HB; have BK390 := n0_; have HB := n1_; have BK391 := n2_; have GW391 := n3_; have GE391 := n4_; have NB390_391 := n5_; have NB391_390 := n6_; clear n0_ n1_ n2_ n3_ n4_ n5_ n6_; clear hb hbox hg; have hnb37 := NB390_391.out; have hnc37 := NB391_390.out; refine cz7_ BK390.out ?_; intro hcz38_0 hcz38_1 hcz38_2 hcz38_3 hcz38_4 hcz38_5 hcz38_6 hfz38_0 hfz38_1 hfz38_2 hfz38_3 hfz38_4 hfz38_5 hfz38_6; refine cz7_ BK391.out ?_; intro hcz39_0 hcz39_1 hcz39_2 hcz39_3 hcz39_4 hcz39_5 hcz39_6 hfz39_0 hfz39_1 hfz39_2 hfz39_3 hfz39_4 hfz39_5 hfz39_6))
   go_ret
   exact ⟨er_, bl2_ HB GE390 GE391⟩
 ·rw [if_neg c3] at H
  have c3b0 : (a0_0 == a1_0) = false := beq_eq_false_iff_ne.mpr c3
  have c3b1 : (a0_0 != a1_0) = true := bne_iff_ne.mpr c3
  obtain rfl := Option.some.inj H
  go_enter Try.func31, Try.ntmps31
  go_wp2_with (first | ((with_reducible refine gate_dst (N := 2) rfl ?_); refine bx_ (N := 2) (cs := #[.int .i64 a0_0, .int .i64 a0_1, .int .i64 a0_2, .slice A0_3 l0_3.length c0_3, .int .i64 a0_4, .int .i64 a0_5, .int .i64 a0_6]) (t := 24) ?_; intro gb390 hg w40 hbox hb; have n0_ := Aside0.mk (below_step (bl0_ HB) hb); have n1_ := Aside0.mk (hbox); have n2_ := Aside0.mk ((by rw [hg]; exact (below_size (bl0_ HB)) : w.heap.size ≤ gb390)); have n3_ := Aside0.mk ((by rw [hg]; exact (below_size (bl0_ HB)) : w.heap.size ≤ gb390)); clear HB; have HB := n0_; have BK390 := n1_; have GW390 := n2_; have GE390 := n3_; clear n0_ n1_ n2_ n3_; clear hb hbox hg) | ((with_reducible refine gate_dst (N := 3) rfl ?_); refine bx_ (N := 3) (cs := #[.int .i64 a1_0, .int .i64 a1_1, .int .i64 a1_2, .slice A1_3 l1_3.length c1_3, .int .i64 a1_4, .int .i64 a1_5, .int .i64 a1_6]) (t := 24) ?_; intro gb391 hg w41 hbox hb; have n0_ := Aside0.mk (blk_below (g := gb390) (bk_ BK390) hb); have n1_ := Aside0.mk (below_step (bl1_ HB GE390) hb); have n2_ := Aside0.mk (hbox); have n3_ := Aside0.mk ((by rw [hg]; exact (below_size (bl1_ HB GE390)) : w.heap.size ≤ gb391)); have n4_ := Aside0.mk ((by rw [hg]; exact (below_size (bl1_ HB GE390)) : w.heap.size ≤ gb391)); have n5_ := Aside0.mk ((by rw [hg]; exact Nat.ne_of_lt (blk_lt (g := gb390) (bk_ BK390)) : gb390 ≠ gb391)); have n6_ := Aside0.mk ((by rw [hg]; exact Nat.ne_of_gt (blk_lt (g := gb390) (bk_ BK390)) : gb391 ≠ gb390)); clear BK390; clear HB; have BK390 := n0_; have HB := n1_; have BK391 := n2_; have GW391 := n3_; have GE391 := n4_; have NB390_391 := n5_; have NB391_390 := n6_; clear n0_ n1_ n2_ n3_ n4_ n5_ n6_; clear hb hbox hg; have hnb42 := NB390_391.out; have hnc42 := NB391_390.out; refine cz7_ BK390.out ?_; intro hcz43_0 hcz43_1 hcz43_2 hcz43_3 hcz43_4 hcz43_5 hcz43_6 hfz43_0 hfz43_1 hfz43_2 hfz43_3 hfz43_4 hfz43_5 hfz43_6; refine cz7_ BK391.out ?_; intro hcz44_0 hcz44_1 hcz44_2 hcz44_3 hcz44_4 hcz44_5 hcz44_6 hfz44_0 hfz44_1 hfz44_2 hfz44_3 hfz44_4 hfz44_5 hfz44_6))
  go_ret
  exact ⟨er_, bl2_ HB GE390 GE391⟩
def basculelaw03_small.f (a0_0 : Int) (a0_1 : Int) (a0_2 : Int) (l0_3 : List Int) (a0_4 : Int) (a0_5 : Int) (a0_6 : Int) : Option (Bool) := some (decide ((l0_3.length : Int) ≤ 2100))
set_option maxHeartbeats 8000000 in
set_option maxRecDepth 100000 in
theorem basculelaw03_small.calls (a0_0 : Int) (a0_1 : Int) (a0_2 : Int) (A0_3 : Option Addr) (c0_3 : Nat) (l0_3 : List Int) (a0_4 : Int) (a0_5 : Int) (a0_6 : Int) (r : Bool) (w : World) (hr0_3 : Kd.C (Kd.int .i64) w A0_3 l0_3.length l0_3) (hc0_3 : l0_3.length ≤ c0_3) (h : basculelaw03_small.f a0_0 a0_1 a0_2 l0_3 a0_4 a0_5 a0_6 = some r) :
 Calls Try.prog 28 #[.agg #[.int .i64 a0_0, .int .i64 a0_1, .int .i64 a0_2, .slice A0_3 l0_3.length c0_3, .int .i64 a0_4, .int .i64 a0_5, .int .i64 a0_6]] w fun e w' => e = .returned (.bool r) ∧ Below w.heap.size w w' := by
 have hu24 := Try.underlying24
 have HR0_3 := Aside0.mk hr0_3
 have HC0_3 := Aside0.mk hc0_3
 clear hr0_3 hc0_3
 have HB := Aside0.mk (Below.refl w.heap.size w)
 have H : (some (decide ((l0_3.length : Int) ≤ 2100))) = some r := h
 clear h
 obtain rfl := Option.some.inj H
 go_enter Try.func28, Try.ntmps28
 go_wp2_with (first | ((with_reducible refine gate_dst (N := 1) rfl ?_); refine bx_ (N := 1) (cs := #[.int .i64 a0_0, .int .i64 a0_1, .int .i64 a0_2, .slice A0_3 l0_3.length c0_3, .int .i64 a0_4, .int .i64 a0_5, .int .i64 a0_6]) (t := 24) ?_; intro gb393 hg w2 hbox hb; have n0_ := Aside0.mk (below_step (bl0_ HB) hb); have n1_ := Aside0.mk (hbox); have n2_ := Aside0.mk ((by rw [hg]; exact (below_size (bl0_ HB)) : w.heap.size ≤ gb393)); have n3_ := Aside0.mk ((by rw [hg]; exact (below_size (bl0_ HB)) : w.heap.size ≤ gb393)); clear HB; have HB := n0_; have BK393 := n1_; have GW393 := n2_; have GE393 := n3_; clear n0_ n1_ n2_ n3_; clear hb hbox hg; refine cz7_ BK393.out ?_; intro hcz3_0 hcz3_1 hcz3_2 hcz3_3 hcz3_4 hcz3_5 hcz3_6 hfz3_0 hfz3_1 hfz3_2 hfz3_3 hfz3_4 hfz3_5 hfz3_6))
 go_ret
 exact ⟨er_, bl1_ HB GE393⟩
end Go.Proofs.Ytocicifgglkaeaa.PR
end

section
namespace Go.Proofs.Ytocicifgglkaeaa.MathP
open Go.RowKit Go.Proofs.YtocicifgglkaeaaW.PrintWords Go.Proofs.YtocicifgglkaeaaW.PrintLast Go.Proofs.YtocicifgglkaeaaW.PrintMore Go.Proofs.Ytocicifgglkaeaa.Ext Go.Proofs.Ytocicifgglkaeaa.ExtF Go.Proofs.Ytocicifgglkaeaa.PP Go.Proofs.Ytocicifgglkaeaa.PQ Go.Proofs.Ytocicifgglkaeaa.ExtM Go.Proofs.Ytocicifgglkaeaa.PR
set_option linter.unusedVariables false
def Bytes (l : List Int) : Prop := ∀ x ∈ l, 0 ≤ x ∧ x < 256
instance (l : List Int) : Decidable (Bytes l) := by unfold Bytes; infer_instance
theorem bytes_rd {l : List Int} (hb : Bytes l) (i : Int) : 0 ≤ rd l i ∧ rd l i < 256 := by
 unfold rd
 rcases Nat.lt_or_ge i.toNat l.length with h | h
 ·rw [List.getD_eq_getElem?_getD, List.getElem?_eq_getElem h]
  exact hb _ (List.getElem_mem h)
 ·rw [List.getD_eq_getElem?_getD, List.getElem?_eq_none h]
  exact ⟨by decide, by decide⟩
theorem or_bit : ∀ m : Fin 8, ∀ p : Fin 128, p.1 < 2 ^ m.1 → Go.bits .or .u8 (p.1 : Int) (shl .u8 1 (m.1 : Int)) = (p.1 : Int) + 2 ^ m.1 := by decide +kernel
theorem and_bit : ∀ m : Fin 8, ∀ x : Fin 256, Go.bits .and .i64 (wrap64 (shr .u8 (x.1 : Int) (m.1 : Int))) 1 = (x.1 : Int) / 2 ^ m.1 % 2 := by decide +kernel
theorem bits_rd {l : List Int} (hb : Bits l) (i : Int) : rd l i = 0 ∨ rd l i = 1 := by
 unfold rd
 rcases Nat.lt_or_ge i.toNat l.length with h | h
 ·rw [List.getD_eq_getElem?_getD, List.getElem?_eq_getElem h]
  exact hb _ (List.getElem_mem h)
 ·rw [List.getD_eq_getElem?_getD, List.getElem?_eq_none h]
  exact Or.inl rfl
theorem rd_out (l : List Int) (i : Nat) (h : l.length ≤ i) : rd l (i : Int) = 0 := by
 unfold rd
 rw [List.getD_eq_getElem?_getD, Int.toNat_natCast, List.getElem?_eq_none h]
 rfl
def part (l : List Int) (i : Nat) : Nat → Int
 | 0 => 0
 | m + 1 => part l i m + 2 ^ m * rd l ((i + m : Nat) : Int)
theorem part_range {l : List Int} (hb : Bits l) (i : Nat) : ∀ m, 0 ≤ part l i m ∧ part l i m < 2 ^ m
 | 0 => by simp [part]
 | m + 1 => by
  have ih := part_range hb i m
  have h2 : (2 : Int) ^ (m + 1) = 2 * 2 ^ m := by rw [Int.pow_succ]; omega
  unfold part
  rcases bits_rd hb ((i + m : Nat) : Int) with h | h <;> rw [h] <;> omega
theorem part_beyond (l : List Int) (i : Nat) : ∀ (d m : Nat), l.length ≤ i + m → part l i (m + d) = part l i m
 | 0, m, _ => rfl
 | d + 1, m, h => by
  rw [← Nat.add_assoc]
  show part l i (m + d) + 2 ^ (m + d) * rd l ((i + (m + d) : Nat) : Int) = part l i m
  rw [rd_out l _ (by omega), part_beyond l i d m h]
  omega
def packs (l : List Int) : List Int := (List.range ((l.length + 7) / 8)).map fun j => part l (8 * j) 8
def bitOf (b : List Int) (i : Nat) : Int := rd b ((i / 8 : Nat) : Int) / 2 ^ (i % 8) % 2
def unbits (b : List Int) (n : Nat) : List Int := (List.range n).map (bitOf b)
theorem tdiv8 (i : Nat) (h : i ≤ 1000000000000000000) : wrap64 (Int.tdiv (i : Int) 8) = ((i / 8 : Nat) : Int) := by
 rw [Int.tdiv_eq_ediv_of_nonneg (by omega), wrap64_id _ (by omega) (by omega)]; omega
theorem tmod8 (i : Nat) : Int.tmod (i : Int) 8 = ((i % 8 : Nat) : Int) := by
 rw [Int.tmod_eq_emod_of_nonneg (by omega)]; omega
theorem pow8 (m : Nat) (h : m ≤ 8) : (2 : Int) ^ m ≤ 256 ∧ 0 < (2 : Int) ^ m := by
 have : m = 0 ∨ m = 1 ∨ m = 2 ∨ m = 3 ∨ m = 4 ∨ m = 5 ∨ m = 6 ∨ m = 7 ∨ m = 8 := by omega
 rcases this with rfl | rfl | rfl | rfl | rfl | rfl | rfl | rfl | rfl <;> simp
theorem rp_l1' (l : List Int) (hb : Bits l) (hl : l.length ≤ 1000000000000) (o : List Int) (ho : o.length < 140737488355328) (i : Nat) (hi : i ≤ l.length) (r : List Int) : ∀ (d m k : Nat), m + d = 8 →
 (∀ k', k ≤ k' → basculeref01_Pack.l0 k' l (o ++ [part l i 8]) ((i + 8 : Nat) : Int) = some r) → basculeref01_Pack.l1 (k + d + 1) l o (i : Int) (part l i m) (2 ^ m) ((i + m : Nat) : Int) = some r
 | d, m, k, hmd, hr => by
  have hp := part_range hb i m
  have h8 := pow8 m (by omega)
  have hp8 := part_range hb i 8
  have hw : wrap64 ((i : Int) + 8) = ((i + 8 : Nat) : Int) := by rw [wrap64_id _ (by omega) (by omega)]; omega
  have hmod : part l i 8 % 256 = part l i 8 := by have := hp8.2; omega
  unfold basculeref01_Pack.l1
  rw [hw]
  match d, hmd with
  | 0, hmd =>
   obtain rfl : m = 8 := by omega
   rw [if_neg (by omega), if_pos ho, hmod]
   exact hr _ (by omega)
  | d + 1, hmd =>
   rw [if_pos (by omega)]
   by_cases hc : i + m < l.length
   ·rw [if_pos (by omega), if_pos (by omega)]
    have hrd := bits_rd hb ((i + m : Nat) : Int)
    have e1 : wrap64 (part l i m + wrap64 (2 ^ m * rd l ((i + m : Nat) : Int))) = part l i (m + 1) := by
     show _ = part l i m + 2 ^ m * rd l ((i + m : Nat) : Int)
     rcases hrd with h | h <;> rw [h]
     ·rw [Int.mul_zero, wrap64_id 0 (by omega) (by omega), wrap64_id _ (by omega) (by omega)]
     ·rw [Int.mul_one, wrap64_id (2 ^ m) (by omega) (by omega), wrap64_id _ (by omega) (by omega)]
    have e2 : wrap64 (2 * 2 ^ m) = 2 ^ (m + 1) := by rw [wrap64_id _ (by omega) (by omega), Int.pow_succ]; omega
    have e3 : wrap64 (((i + m : Nat) : Int) + 1) = ((i + (m + 1) : Nat) : Int) := by rw [wrap64_id _ (by omega) (by omega)]; omega
    rw [e1, e2, e3]
    exact rp_l1' l hb hl o ho i hi r d (m + 1) k (by omega) hr
   ·rw [if_neg (by omega), if_pos ho]
    have : part l i 8 = part l i m := by
     have := part_beyond l i (d + 1) m (by omega)
     rw [hmd] at this
     exact this
    rw [← this, hmod]
    exact hr _ (by omega)
theorem rp_l0 (l : List Int) (hb : Bits l) (hl : l.length ≤ 1000000000000) : ∀ (d j k : Nat), j + d = (l.length + 7) / 8 → 20 * d + 1 ≤ k →
 basculeref01_Pack.l0 k l ((List.range j).map fun j => part l (8 * j) 8) ((8 * j : Nat) : Int) = some (packs l)
 | 0, j, k, hj, hk => by
  obtain ⟨k, rfl⟩ := Nat.exists_eq_add_of_le' (show 1 ≤ k by omega)
  unfold basculeref01_Pack.l0
  rw [if_neg (by omega)]
  unfold packs
  rw [← hj, Nat.add_zero]
 | d + 1, j, k, hj, hk => by
  obtain ⟨k, rfl⟩ := Nat.exists_eq_add_of_le' (show 20 * d + 10 + 1 ≤ k by omega)
  have : k + (20 * d + 10 + 1) = (k + 20 * d + 1 + 8 + 1) + 1 := by omega
  rw [this]
  unfold basculeref01_Pack.l0
  rw [if_pos (by omega)]
  refine rp_l1' l hb hl _ (by simp; omega) (8 * j) (by omega) _ 8 0 (k + 20 * d + 1) (by omega) (fun k' hk' => ?_)
  have := rp_l0 l hb hl d (j + 1) k' (by omega) (by omega)
  rw [List.range_succ, List.map_append] at this
  rw [show 8 * j + 8 = 8 * (j + 1) from by omega]
  exact this
theorem refpack_f (l : List Int) (hb : Bits l) (hl : l.length ≤ 1000000000000) (k : Nat) (hk : 3 * l.length + 100 ≤ k) : basculeref01_Pack.f k l = some (packs l) := by
 unfold basculeref01_Pack.f
 exact rp_l0 l hb hl ((l.length + 7) / 8) 0 k (by omega) (by omega)
theorem or_step (p : Int) (m : Nat) (hm : m < 8) (h : 0 ≤ p ∧ p < 2 ^ m) : Go.bits .or .u8 p (shl .u8 1 (m : Int)) = p + 2 ^ m := by
 obtain ⟨q, rfl⟩ := Int.eq_ofNat_of_zero_le h.1
 have h2 : q < 2 ^ m := by have := h.2; exact_mod_cast this
 have h3 : (2 : Nat) ^ m ≤ 2 ^ 7 := Nat.pow_le_pow_right (by omega) (by omega)
 exact or_bit ⟨m, hm⟩ ⟨q, by omega⟩ h2
def upto (l : List Int) (n i : Nat) : List Int := (List.range n).map fun j => part l (8 * j) (min 8 (i - 8 * j))
theorem upto_len (l : List Int) (n i : Nat) : (upto l n i).length = n := by simp [upto]
theorem upto_rd (l : List Int) (n i j : Nat) (h : j < n) : rd (upto l n i) (j : Int) = part l (8 * j) (min 8 (i - 8 * j)) := by
 unfold rd
 rw [Int.toNat_natCast, List.getD_eq_getElem?_getD, List.getElem?_eq_getElem (by rw [upto_len]; exact h)]
 simp [upto]
theorem upto_zero (l : List Int) (n i : Nat) (hn : i / 8 < n) (h : rd l (i : Int) = 0) : upto l n (i + 1) = upto l n i := by
 unfold upto
 apply List.map_congr_left
 intro j hj
 by_cases hc : i / 8 = j
 ·subst hc
  rw [show min 8 (i + 1 - 8 * (i / 8)) = min 8 (i - 8 * (i / 8)) + 1 from by omega]
  show _ + 2 ^ _ * rd l ((8 * (i / 8) + min 8 (i - 8 * (i / 8)) : Nat) : Int) = _
  rw [show 8 * (i / 8) + min 8 (i - 8 * (i / 8)) = i from by omega, h]
  omega
 ·rw [show min 8 (i + 1 - 8 * j) = min 8 (i - 8 * j) from by omega]
theorem upto_one (l : List Int) (hb : Bits l) (n i : Nat) (hn : i / 8 < n) (h : rd l (i : Int) = 1) :
 (upto l n i).set (i / 8) (Go.bits .or .u8 (rd (upto l n i) ((i / 8 : Nat) : Int)) (shl .u8 1 ((i % 8 : Nat) : Int))) = upto l n (i + 1) := by
 rw [upto_rd l n i (i / 8) hn, show min 8 (i - 8 * (i / 8)) = i % 8 from by omega, or_step _ _ (by omega) (part_range hb _ _)]
 apply List.ext_getElem
 ·simp [upto]
 intro j h1 h2
 have hj : j < n := by rw [upto_len] at h2; exact h2
 rw [List.getElem_set]
 by_cases hc : i / 8 = j
 ·subst hc
  rw [if_pos rfl]
  simp only [upto, List.getElem_map, List.getElem_range]
  rw [show min 8 (i + 1 - 8 * (i / 8)) = i % 8 + 1 from by omega]
  show _ = _ + 2 ^ _ * rd l ((8 * (i / 8) + i % 8 : Nat) : Int)
  rw [show 8 * (i / 8) + i % 8 = i from by omega, h, Int.mul_one]
 ·rw [if_neg hc]
  simp only [upto, List.getElem_map, List.getElem_range]
  rw [show min 8 (i + 1 - 8 * j) = min 8 (i - 8 * j) from by omega]
theorem upto_end (l : List Int) : upto l ((l.length + 7) / 8) l.length = packs l := by
 unfold upto packs
 apply List.map_congr_left
 intro j hj
 have hj := List.mem_range.1 hj
 by_cases hc : 8 * j + 8 ≤ l.length
 ·rw [show min 8 (l.length - 8 * j) = 8 from by omega]
 ·have := part_beyond l (8 * j) (8 - (l.length - 8 * j)) (l.length - 8 * j) (by omega)
  rw [show l.length - 8 * j + (8 - (l.length - 8 * j)) = 8 from by omega] at this
  rw [this, show min 8 (l.length - 8 * j) = l.length - 8 * j from by omega]
theorem wp_l0 (l : List Int) (hb : Bits l) (hl : l.length ≤ 1000000000000) : ∀ (d i k : Nat), i + d = l.length → d + 1 ≤ k →
 wire_Pack.l0 k (upto l ((l.length + 7) / 8) i) l (l.length : Int) (i : Int) = some (packs l, 0)
 | 0, i, k, hi, hk => by
  obtain ⟨k, rfl⟩ := Nat.exists_eq_add_of_le' (show 1 ≤ k by omega)
  unfold wire_Pack.l0
  rw [if_neg (by omega), show i = l.length from by omega, upto_end]
 | d + 1, i, k, hi, hk => by
  obtain ⟨k, rfl⟩ := Nat.exists_eq_add_of_le' (show 1 ≤ k by omega)
  have hw : wrap64 ((i : Int) + 1) = ((i + 1 : Nat) : Int) := by rw [wrap64_id _ (by omega) (by omega)]; omega
  have ih := wp_l0 l hb hl d (i + 1) k (by omega) (by omega)
  unfold wire_Pack.l0
  rw [if_pos (by omega), if_pos (by omega), if_pos (by omega), hw]
  rcases bits_rd hb (i : Int) with h | h
  ·rw [if_pos h, ← upto_zero l _ i (by omega) h]
   exact ih
  ·rw [if_neg (by omega), if_pos h, tdiv8 i (by omega), tmod8, if_pos (by omega), if_pos (by rw [upto_len]; omega), if_pos (by omega), Int.toNat_natCast, upto_one l hb _ i (by omega) h]
   exact ih
theorem upto_nought (l : List Int) (n : Nat) : List.replicate n (0 : Int) = upto l n 0 := by
 unfold upto
 apply List.ext_getElem
 ·simp
 intro i h1 h2
 simp [part]
theorem pack_start (l : List Int) (hl : l.length ≤ 1000000000000) (k : Nat) : wire_Pack.f k l = wire_Pack.l0 k (upto l ((l.length + 7) / 8) 0) l (l.length : Int) 0 := by
 unfold wire_Pack.f
 have hw : wrap64 ((l.length : Int) + 7) = ((l.length + 7 : Nat) : Int) := by rw [wrap64_id _ (by omega) (by omega)]; omega
 rw [hw, tdiv8 _ (by omega), if_pos (by omega), if_pos (by omega), Int.toNat_natCast, upto_nought]
theorem pack_yes (l : List Int) (hb : Bits l) (hl : l.length ≤ 1000000000000) (k : Nat) (hk : l.length + 1 ≤ k) : wire_Pack.f k l = some (packs l, 0) := by
 rw [pack_start l hl]
 exact wp_l0 l hb hl l.length 0 k (by omega) hk
theorem ints_l0 (l : List Int) (hl : l.length ≤ 1000000000000) : ∀ (d i k : Nat), i + d = l.length → d + 1 ≤ k → basculeref01_Ints.l0 k l l (i : Int) = some true
 | 0, i, k, hi, hk => by
  obtain ⟨k, rfl⟩ := Nat.exists_eq_add_of_le' (show 1 ≤ k by omega)
  unfold basculeref01_Ints.l0
  rw [if_neg (by omega)]
 | d + 1, i, k, hi, hk => by
  obtain ⟨k, rfl⟩ := Nat.exists_eq_add_of_le' (show 1 ≤ k by omega)
  have hw : wrap64 ((i : Int) + 1) = ((i + 1 : Nat) : Int) := by rw [wrap64_id _ (by omega) (by omega)]; omega
  unfold basculeref01_Ints.l0
  rw [if_pos (by omega), if_pos (by omega), if_pos (by omega), if_pos rfl, hw]
  exact ints_l0 l hl d (i + 1) k (by omega) (by omega)
theorem ints_f (l : List Int) (hl : l.length ≤ 1000000000000) (k : Nat) (hk : l.length + 1 ≤ k) : basculeref01_Ints.f k l l = some true := by
 unfold basculeref01_Ints.f
 rw [if_pos rfl]
 exact ints_l0 l hl l.length 0 k (by omega) hk
theorem and_step (x : Int) (m : Nat) (hm : m < 8) (h : 0 ≤ x ∧ x < 256) : Go.bits .and .i64 (wrap64 (shr .u8 x (m : Int))) 1 = x / 2 ^ m % 2 := by
 obtain ⟨q, rfl⟩ := Int.eq_ofNat_of_zero_le h.1
 exact and_bit ⟨m, hm⟩ ⟨q, by omega⟩
theorem unbits_len (b : List Int) (n : Nat) : (unbits b n).length = n := by simp [unbits]
theorem wu_l0 (b : List Int) (hb : Bytes b) (n : Nat) (hn : n ≤ 8 * b.length) (hl : b.length ≤ 1000000000000) : ∀ (d i k : Nat), i + d = n → d + 1 ≤ k →
 wire_Unpack.l0 k b ((unbits b n).take i ++ List.replicate (n - i) 0) (n : Int) (i : Int) = some (unbits b n, 0)
 | 0, i, k, hi, hk => by
  obtain ⟨k, rfl⟩ := Nat.exists_eq_add_of_le' (show 1 ≤ k by omega)
  unfold wire_Unpack.l0
  rw [if_neg (by omega), show n - i = 0 from by omega, List.replicate_zero, List.append_nil, List.take_of_length_le (by rw [unbits_len]; omega)]
 | d + 1, i, k, hi, hk => by
  obtain ⟨k, rfl⟩ := Nat.exists_eq_add_of_le' (show 1 ≤ k by omega)
  have hw : wrap64 ((i : Int) + 1) = ((i + 1 : Nat) : Int) := by rw [wrap64_id _ (by omega) (by omega)]; omega
  have hlt : i < (unbits b n).length := by rw [unbits_len]; omega
  have ih := wu_l0 b hb n hn hl d (i + 1) k (by omega) (by omega)
  have hset : ((unbits b n).take i ++ List.replicate (n - i) 0).set i (bitOf b i) = (unbits b n).take (i + 1) ++ List.replicate (n - (i + 1)) 0 := by
   rw [List.set_append_right _ _ (by rw [List.length_take, unbits_len]; omega), show i - ((unbits b n).take i).length = 0 from by rw [List.length_take, unbits_len]; omega, show n - i = (n - (i + 1)) + 1 from by omega, List.replicate_succ, List.set_cons_zero, List.take_succ_eq_append_getElem hlt, List.append_assoc]
   simp [unbits]
  unfold wire_Unpack.l0
  rw [if_pos (by omega), tdiv8 i (by omega), tmod8, if_pos (by omega), if_pos (by omega), if_pos (by omega), if_pos (by omega), if_pos (by rw [List.length_append, List.length_take, unbits_len, List.length_replicate]; omega), hw, and_step _ _ (by omega) (bytes_rd hb _), Int.toNat_natCast]
  show wire_Unpack.l0 k b (List.set _ i (bitOf b i)) _ _ = _
  rw [hset]
  exact ih
theorem unpack_yes (b : List Int) (hb : Bytes b) (n : Nat) (hn : n ≤ 8 * b.length) (hl : b.length ≤ 1000000000000) (k : Nat) (hk : n + 1 ≤ k) : wire_Unpack.f k b (n : Int) = some (unbits b n, 0) := by
 unfold wire_Unpack.f
 rw [wrap64_id (8 * (b.length : Int)) (by omega) (by omega), if_neg (by omega), if_neg (by omega), if_pos (by omega), if_pos (by omega), Option.bind_some, Int.toNat_natCast, List.length_replicate]
 have := wu_l0 b hb n hn hl n 0 k (by omega) hk
 rw [List.take_zero, List.nil_append] at this
 exact this
theorem tdivs (x : Nat) (h : x ≤ 1000000000000000000) : wrap64 (Int.tdiv (x : Int) 2) = ((x / 2 : Nat) : Int) := by
 rw [Int.tdiv_eq_ediv_of_nonneg (by omega), wrap64_id _ (by omega) (by omega)]; omega
theorem ru_l1 (b : List Int) (n : Int) (o : List Int) (ho : o.length < 17592186044416) (i : Nat) (hi : i ≤ 1000000000000000) (r : List Int) : ∀ (d m k x : Nat), x < 256 → m + d = i % 8 →
 basculeref01_Unpack.l0 k b n (o ++ [((x / 2 ^ d % 2 : Nat) : Int)]) ((i + 1 : Nat) : Int) = some r → basculeref01_Unpack.l1 (k + d + 1) b n o (i : Int) (x : Int) (m : Int) = some r
 | 0, m, k, x, hx, hm, hr => by
  have hw : wrap64 ((i : Int) + 1) = ((i + 1 : Nat) : Int) := by rw [wrap64_id _ (by omega) (by omega)]; omega
  unfold basculeref01_Unpack.l1
  rw [tmod8, if_neg (by omega), if_pos ho, hw, show Int.tmod (x : Int) 2 = ((x % 2 : Nat) : Int) from by rw [Int.tmod_eq_emod_of_nonneg (by omega)]; omega]
  simpa using hr
 | d + 1, m, k, x, hx, hm, hr => by
  have hw : wrap64 ((m : Int) + 1) = ((m + 1 : Nat) : Int) := by rw [wrap64_id _ (by omega) (by omega)]; omega
  rw [show k + (d + 1) + 1 = (k + d + 1) + 1 from by omega]
  unfold basculeref01_Unpack.l1
  rw [tmod8, if_pos (by omega), hw, tdivs x (by omega)]
  refine ru_l1 b n o ho i hi r d (m + 1) k (x / 2) (by omega) (by omega) ?_
  rw [Nat.div_div_eq_div_mul, show 2 * 2 ^ d = 2 ^ (d + 1) from by rw [Nat.pow_succ]; omega]
  exact hr
theorem ru_l0 (b : List Int) (hb : Bytes b) (n : Nat) (hn : n ≤ 8 * b.length) (hl : b.length ≤ 100000000000) : ∀ (d i k : Nat), i + d = n → 20 * d + 1 ≤ k →
 basculeref01_Unpack.l0 k b (n : Int) ((unbits b n).take i) (i : Int) = some (unbits b n)
 | 0, i, k, hi, hk => by
  obtain ⟨k, rfl⟩ := Nat.exists_eq_add_of_le' (show 1 ≤ k by omega)
  unfold basculeref01_Unpack.l0
  rw [if_neg (by omega), List.take_of_length_le (by rw [unbits_len]; omega)]
 | d + 1, i, k, hi, hk => by
  obtain ⟨k, rfl⟩ := Nat.exists_eq_add_of_le' (show i % 8 + 2 ≤ k by omega)
  have hlt : i < (unbits b n).length := by rw [unbits_len]; omega
  have hby := bytes_rd hb ((i / 8 : Nat) : Int)
  rw [show k + (i % 8 + 2) = (k + i % 8 + 1) + 1 from by omega]
  unfold basculeref01_Unpack.l0
  rw [if_pos (by omega), tdiv8 i (by omega), if_pos (by omega), if_pos (by omega), wrap64_id _ (by omega) (by omega)]
  obtain ⟨x, hx⟩ := Int.eq_ofNat_of_zero_le hby.1
  rw [hx]
  refine ru_l1 b n _ (by rw [List.length_take, unbits_len]; omega) i (by omega) _ (i % 8) 0 k x (by omega) (by omega) ?_
  have ih := ru_l0 b hb n hn hl d (i + 1) k (by omega) (by omega)
  rw [List.take_succ_eq_append_getElem hlt] at ih
  have e : (unbits b n)[i] = ((x / 2 ^ (i % 8) % 2 : Nat) : Int) := by
   simp only [unbits, List.getElem_map, List.getElem_range, bitOf]
   rw [hx]
   simp
  rw [e] at ih
  exact ih
theorem refunpack_f (b : List Int) (hb : Bytes b) (n : Nat) (hn : n ≤ 8 * b.length) (hl : b.length ≤ 100000000000) (k : Nat) (hk : 20 * n + 1 ≤ k) : basculeref01_Unpack.f k b (n : Int) = some (unbits b n) := by
 have := ru_l0 b hb n hn hl n 0 k (by omega) hk
 rw [List.take_zero] at this
 exact this
end Go.Proofs.Ytocicifgglkaeaa.MathP
end

-- Made by a program of this session over the translation.
import Derived.Test.YtabjlanomebonaaPBx0
import Derived.Test.YtabjlanomebonaaPBx16
namespace Go.Proofs.Ytabjlanomebonaa.PB
open Go.RowKit Go.Proofs.YtabjlanomebonaaW.PrintWords Go.Proofs.YtabjlanomebonaaW.PrintLast Go.Proofs.YtabjlanomebonaaW.PrintMore
attribute [local go_sem] max2_int min2_int max_two min_two max_three min_three max_four min_four   -- for this text's walks alone
set_option linter.unusedVariables false
set_option linter.unusedSimpArgs false
open Go.Proofs.Ytabjlanomebonaa.Ext Go.Proofs.Ytabjlanomebonaa.ExtC

/-! ### mbap_Frame: function 18 -/
def mbap_Frame.j0 : Nat → List Int → Bool → Int → Int → List Int → Option (List Int × Int)
  | 0, _, _, _, _, _ => none
  | k + 1, x4, x35, x157000, x157001, x157002 => if x35 = true then (some (([] : List Int), 1)) else ((wire_Put.f x4 0).bind fun bt161 => ((wire_Put.f bt161.1 (wrap64 ((x157002.length : Int) + 1))).bind fun bt165 => (if bt165.1.length < 140737488355328 then ((some (bt165.1 ++ [(x157001) % 256] : List Int)).bind fun y169 => (if y169.length + x157002.length < 140737488355328 then (some ((y169 ++ x157002), 0)) else (none))) else (none))))
def mbap_Frame.f (k : Nat) (a0_0 : Int) (a0_1 : Int) (l0_2 : List Int) : Option (List Int × Int) := (wire_Put.f ([] : List Int) a0_0).bind fun bt157 => (if bt157.2 = 0 then (if a0_1 < 0 then (mbap_Frame.j0 k bt157.1 true a0_0 a0_1 l0_2) else (if a0_1 > 255 then (mbap_Frame.j0 k bt157.1 true a0_0 a0_1 l0_2) else (if (l0_2.length : Int) < 1 then (mbap_Frame.j0 k bt157.1 true a0_0 a0_1 l0_2) else (mbap_Frame.j0 k bt157.1 (decide ((l0_2.length : Int) > 253)) a0_0 a0_1 l0_2)))) else (mbap_Frame.j0 k bt157.1 true a0_0 a0_1 l0_2))
theorem mbap_Frame.mono_l : ∀ k, (∀ y0 y1 y2 y3 y4, LeO (mbap_Frame.j0 k y0 y1 y2 y3 y4) (mbap_Frame.j0 (k + 1) y0 y1 y2 y3 y4))
  | 0 => fun _ _ _ _ _ r h => by simp [mbap_Frame.j0] at h
  | k + 1 => by
    have ih0 := mbap_Frame.mono_l k
    · intro y0 y1 y2 y3 y4
      unfold mbap_Frame.j0
      repeat' first
      | (with_reducible exact ih0 _ _ _ _ _)
      | (with_reducible exact LeO.refl _)
      | (with_reducible exact LeO.none _)
      | (with_reducible refine LeO.ite ?_ ?_)
      | (with_reducible refine LeO.bind ?_ (fun _ => ?_))
      | exact ih0 _ _ _ _ _
      | exact LeO.none _
      | refine LeO.ite ?_ ?_
      | refine LeO.bind ?_ (fun _ => ?_)
theorem mbap_Frame.mono : ∀ a0 a1 a2 k, LeO (mbap_Frame.f k a0 a1 a2) (mbap_Frame.f (k + 1) a0 a1 a2) := by
  intro a0 a1 a2 k
  have ih0 := mbap_Frame.mono_l k
  unfold mbap_Frame.f
  repeat' first
      | (with_reducible exact ih0 _ _ _ _ _)
      | (with_reducible exact LeO.refl _)
      | (with_reducible exact LeO.none _)
      | (with_reducible refine LeO.ite ?_ ?_)
      | (with_reducible refine LeO.bind ?_ (fun _ => ?_))
      | exact ih0 _ _ _ _ _
      | exact LeO.none _
      | refine LeO.ite ?_ ?_
      | refine LeO.bind ?_ (fun _ => ?_)
def mbap_Frame.T6 : Bool × List (List Nat × List Nat) := (true, [([], []), ([], []), ([1], [1]), ([2], [2]), ([3], [3]), ([0, 4], [0, 4]), ([], []), ([6], [6]), ([5, 7, 5], [5, 7]), ([8, 8, 0, 1, 2, 3, 4, 5, 6, 7, 8], [8]), ([9, 0, 1, 2, 3, 4, 5, 6, 7, 8, 9], [])])
def mbap_Frame.B6 : List Nat := [0, 0, 2, 6, 14, 31, 0, 64, 255, 511, 1023]
theorem mbap_Frame.tab6 : rtab .any (opsOf Try.f18 6) = mbap_Frame.T6 := by kernel_rfl
theorem mbap_Frame.bits6 : waitsOk mbap_Frame.T6.2 mbap_Frame.B6 = true := by kernel_rfl
set_option maxHeartbeats 8000000 in
set_option maxRecDepth 100000 in
theorem mbap_Frame.calls (k : Nat) (a0_0 : Int) (a0_1 : Int) (A0_2 : Option Addr) (c0_2 : Nat) (l0_2 : List Int) (r1 : List Int) (r2 : Int) (w : World) (hr0_2 : Kd.C (Kd.int .u8) w A0_2 l0_2.length l0_2) (hc0_2 : l0_2.length ≤ c0_2) (h : mbap_Frame.f k a0_0 a0_1 l0_2 = some (r1, r2)) :
    Calls Try.prog 18 #[.agg #[.int .i64 a0_0, .int .i64 a0_1, .slice A0_2 l0_2.length c0_2]] w fun e w' => ∃ v0_ : Value, e = .returned (.tuple #[v0_, .int .i64 r2]) ∧ Kd.R (Kd.int .u8) 5 w' w.heap.size (fun _ => True) v0_ r1 ∧ Below w.heap.size w w' := by
  have hu37 := Try.underlying37
  have HR0_2 := Aside0.mk hr0_2
  have HC0_2 := Aside0.mk hc0_2
  clear hr0_2 hc0_2
  have HB := Aside0.mk (Below.refl w.heap.size w)
  have H : ((wire_Put.f ([] : List Int) a0_0).bind fun bt157 => (if bt157.2 = 0 then (if a0_1 < 0 then (mbap_Frame.j0 k bt157.1 true a0_0 a0_1 l0_2) else (if a0_1 > 255 then (mbap_Frame.j0 k bt157.1 true a0_0 a0_1 l0_2) else (if (l0_2.length : Int) < 1 then (mbap_Frame.j0 k bt157.1 true a0_0 a0_1 l0_2) else (mbap_Frame.j0 k bt157.1 (decide ((l0_2.length : Int) > 253)) a0_0 a0_1 l0_2)))) else (mbap_Frame.j0 k bt157.1 true a0_0 a0_1 l0_2))) = some (r1, r2) := h
  clear h
  replace H := Option.bind_eq_some_iff.mp H
  obtain ⟨⟨t157, t158⟩, A20, H⟩ := H
  replace H : (if t158 = 0 then (if a0_1 < 0 then (mbap_Frame.j0 k t157 true a0_0 a0_1 l0_2) else (if a0_1 > 255 then (mbap_Frame.j0 k t157 true a0_0 a0_1 l0_2) else (if (l0_2.length : Int) < 1 then (mbap_Frame.j0 k t157 true a0_0 a0_1 l0_2) else (mbap_Frame.j0 k t157 (decide ((l0_2.length : Int) > 253)) a0_0 a0_1 l0_2)))) else (mbap_Frame.j0 k t157 true a0_0 a0_1 l0_2)) = some (r1, r2) := H
  have A2 := Aside0.mk A20
  clear A20
  have HC3 := Aside0.mk H
  clear H
  go_enter Try.func18, Try.ntmps18
  go_upto_region 2 with (first | ((with_reducible refine gate_dst (N := 1) rfl ?_); (try (refine gate_guard (by rfl) ?_; dsimp only)); refine box_event ?hg (N := 1) ?hd (cs := #[.int .i64 a0_0, .int .i64 a0_1, .slice A0_2 l0_2.length c0_2]) (t := 37) ?hr ?_; (case hd => rfl); (case hg => rfl); (case hr => first | (go_simp; done) | (go_simp; rfl)); intro gb156 hg w4 hbox hb; have n0_ := Aside0.mk (below_step (by repeat (first | (with_reducible first | exact HB.out | apply below_alloc | apply pw_below_drewN | apply below_drew1) | exact HB.out)) hb); have n1_ := Aside0.mk (hbox); have n2_ := Aside0.mk ((by rw [hg]; exact (below_size (by repeat (first | (with_reducible first | exact HB.out | apply below_alloc | apply pw_below_drewN | apply below_drew1) | exact HB.out))) : w.heap.size ≤ gb156)); have n3_ := Aside0.mk ((by rw [hg]; exact (below_size (by repeat (first | (with_reducible first | exact HB.out | apply below_alloc | apply pw_below_drewN | apply below_drew1) | exact HB.out))) : w.heap.size ≤ gb156)); clear HB; have HB := n0_; have BK156 := n1_; have GW156 := n2_; have GE156 := n3_; clear n0_ n1_ n2_ n3_; clear hb hbox hg; have hcz5_0 : w4.cell? ⟨gb156, 0, none⟩ = some (.int .i64 a0_0) := (blk_cell BK156.out 0).trans rfl; have hcz5_1 : w4.cell? ⟨gb156, 1, none⟩ = some (.int .i64 a0_1) := (blk_cell BK156.out 1).trans rfl; have hcz5_2 : w4.cell? ⟨gb156, 2, none⟩ = some (.slice A0_2 l0_2.length c0_2) := (blk_cell BK156.out 2).trans rfl; have hfz5_0 := blk_frozen BK156.out 0; have hfz5_1 := blk_frozen BK156.out 1; have hfz5_2 := blk_frozen BK156.out 2) | ((with_reducible refine gate_callee (f := 35) rfl ?_); refine goesL_ (some 9) rfl rfl Try.func35 (by kernel_rfl) rfl #[.slice none 0 0, .int .i64 a0_0] rfl (by (try simp only [List.map_toArray, List.map_cons, List.map_nil]); first | done | rfl | (simp only [List.length_drop, List.length_take]; rfl)) ?_; (refine (wire_Put.calls _ _ ([] : List Int) a0_0 t157 t158 _ ?side1 ?side2 A2.out).mono ?_); (case side1 => exact Kd.C_nil _ _); (case side2 => exact Nat.le_refl _); rintro e w6 ⟨v159, rfl, ho0, hb⟩; refine ⟨_, rfl, ?_⟩; have n0_ := Aside0.mk (Kd.R_lower ho0 (below_size (by repeat (first | (with_reducible first | exact HB.out | apply below_alloc | apply pw_below_drewN | apply below_drew1 | refine below_set ?_ GE156.out) | exact HB.out)))); have n1_ := Aside0.mk (blk_below (g := gb156) (o := .cells #[.int .i64 a0_0, .int .i64 a0_1, .slice A0_2 l0_2.length c0_2] 37 (0, 0)) (by (with_reducible repeat (first | refine blk_drewN ?_ _ | refine blk_drew ?_ | refine blk_alloc ?_ _)); exact BK156.out) hb); have n2_ := Aside0.mk (below_step (by repeat (first | (with_reducible first | exact HB.out | apply below_alloc | apply pw_below_drewN | apply below_drew1 | refine below_set ?_ GE156.out) | exact HB.out)) hb); clear BK156; clear HB; have HO160 := n0_; have BK156 := n1_; have HB := n2_; clear n0_ n1_ n2_; (try clear hb); (try clear hb2); (try clear hk); (try clear hi); (try clear ho0)))
  (try simp only [Act.put, List.setIfInBounds_toArray, List.set_cons_zero, List.set_cons_succ])
  go_cut [35] (fun v35 wc => ∃ (kq : Nat) (x35_2 : Bool), v35 = .bool x35_2 ∧ Aside0 (mbap_Frame.j0 kq t157 x35_2 a0_0 a0_1 l0_2 = some (r1, r2)) ∧ Aside0 (kq ≤ k) ∧ Aside0 (Kd.R (Kd.int .u8) 5 wc w.heap.size (fun _ => True) v159 t157) ∧ Aside0 (wc.heap[gb156]? = some (.cells #[.int .i64 a0_0, .int .i64 a0_1, (.slice A0_2 l0_2.length c0_2)] 37 (0, 0))) ∧ Aside0 (Below w.heap.size w wc))
  case first =>
    have H := HC3.out
    clear HC3
    by_cases c7 : t158 = 0
    · rw [if_pos c7] at H
      have c7b0 : (t158 == 0) = true := beq_iff_eq.mpr c7
      have c7b1 : (t158 != 0) = false := bne_eq_false_iff_eq.mpr c7
      clear c7
      (first | rw [c7b0] | (simp only [i64_w, i32_w]; rw [c7b0]) | skip)
      by_cases c8 : a0_1 < 0
      · rw [if_pos c8] at H
        have c8b0 : decide (a0_1 < 0) = true := decide_eq_true c8
        clear c8
        have H' := Aside0.mk H
        clear H
        have hcz9_0 : w6.cell? ⟨gb156, 0, none⟩ = some (.int .i64 a0_0) := (blk_cell BK156.out 0).trans rfl
        have hcz9_1 : w6.cell? ⟨gb156, 1, none⟩ = some (.int .i64 a0_1) := (blk_cell BK156.out 1).trans rfl
        have hcz9_2 : w6.cell? ⟨gb156, 2, none⟩ = some (.slice A0_2 l0_2.length c0_2) := (blk_cell BK156.out 2).trans rfl
        have hfz9_0 := blk_frozen BK156.out 0
        have hfz9_1 := blk_frozen BK156.out 1
        have hfz9_2 := blk_frozen BK156.out 2
        go_wp2
        go_meet
        case rel => exact ⟨_, (true), (by first | rfl | (simp; done) | (simp [*]; done)), H', ⟨by first | omega | exact Nat.le_refl _⟩, ⟨by (with_reducible repeat (first | apply Kd.R_alloc | apply Kd.R_drewN | apply Kd.R_drew)); exact HO160.out⟩, ⟨by (with_reducible repeat (first | refine blk_drewN ?_ _ | refine blk_drew ?_ | refine blk_alloc ?_ _)); exact BK156.out⟩, ⟨by repeat (first | (with_reducible first | exact HB.out | apply below_alloc | apply pw_below_drewN | apply below_drew1 | refine below_set ?_ GE156.out) | exact HB.out)⟩⟩
      · rw [if_neg c8] at H
        have c8b0 : decide (a0_1 < 0) = false := decide_eq_false c8
        clear c8
        by_cases c10 : a0_1 > 255
        · rw [if_pos c10] at H
          have c10b0 : decide (255 < a0_1) = true := decide_eq_true c10
          clear c10
          have H' := Aside0.mk H
          clear H
          have hcz11_0 : w6.cell? ⟨gb156, 0, none⟩ = some (.int .i64 a0_0) := (blk_cell BK156.out 0).trans rfl
          have hcz11_1 : w6.cell? ⟨gb156, 1, none⟩ = some (.int .i64 a0_1) := (blk_cell BK156.out 1).trans rfl
          have hcz11_2 : w6.cell? ⟨gb156, 2, none⟩ = some (.slice A0_2 l0_2.length c0_2) := (blk_cell BK156.out 2).trans rfl
          have hfz11_0 := blk_frozen BK156.out 0
          have hfz11_1 := blk_frozen BK156.out 1
          have hfz11_2 := blk_frozen BK156.out 2
          go_wp2
          go_meet
          case rel => exact ⟨_, (true), (by first | rfl | (simp; done) | (simp [*]; done)), H', ⟨by first | omega | exact Nat.le_refl _⟩, ⟨by (with_reducible repeat (first | apply Kd.R_alloc | apply Kd.R_drewN | apply Kd.R_drew)); exact HO160.out⟩, ⟨by (with_reducible repeat (first | refine blk_drewN ?_ _ | refine blk_drew ?_ | refine blk_alloc ?_ _)); exact BK156.out⟩, ⟨by repeat (first | (with_reducible first | exact HB.out | apply below_alloc | apply pw_below_drewN | apply below_drew1 | refine below_set ?_ GE156.out) | exact HB.out)⟩⟩
        · rw [if_neg c10] at H
          have c10b0 : decide (255 < a0_1) = false := decide_eq_false c10
          clear c10
          by_cases c12 : (l0_2.length : Int) < 1
          · rw [if_pos c12] at H
            have c12b0 : decide ((l0_2.length : Int) < 1) = true := decide_eq_true c12
            have c12b1 : decide (l0_2.length < 1) = true := decide_eq_true (by omega)
            clear c12
            have H' := Aside0.mk H
            clear H
            have hcz13_0 : w6.cell? ⟨gb156, 0, none⟩ = some (.int .i64 a0_0) := (blk_cell BK156.out 0).trans rfl
            have hcz13_1 : w6.cell? ⟨gb156, 1, none⟩ = some (.int .i64 a0_1) := (blk_cell BK156.out 1).trans rfl
            have hcz13_2 : w6.cell? ⟨gb156, 2, none⟩ = some (.slice A0_2 l0_2.length c0_2) := (blk_cell BK156.out 2).trans rfl
            have hfz13_0 := blk_frozen BK156.out 0
            have hfz13_1 := blk_frozen BK156.out 1
            have hfz13_2 := blk_frozen BK156.out 2
            go_wp2
            go_meet
            case rel => exact ⟨_, (true), (by first | rfl | (simp; done) | (simp [*]; done)), H', ⟨by first | omega | exact Nat.le_refl _⟩, ⟨by (with_reducible repeat (first | apply Kd.R_alloc | apply Kd.R_drewN | apply Kd.R_drew)); exact HO160.out⟩, ⟨by (with_reducible repeat (first | refine blk_drewN ?_ _ | refine blk_drew ?_ | refine blk_alloc ?_ _)); exact BK156.out⟩, ⟨by repeat (first | (with_reducible first | exact HB.out | apply below_alloc | apply pw_below_drewN | apply below_drew1 | refine below_set ?_ GE156.out) | exact HB.out)⟩⟩
          · rw [if_neg c12] at H
            have c12b0 : decide ((l0_2.length : Int) < 1) = false := decide_eq_false c12
            have c12b1 : decide (l0_2.length < 1) = false := decide_eq_false (by omega)
            clear c12
            have H' := Aside0.mk H
            clear H
            have hcz14_0 : w6.cell? ⟨gb156, 0, none⟩ = some (.int .i64 a0_0) := (blk_cell BK156.out 0).trans rfl
            have hcz14_1 : w6.cell? ⟨gb156, 1, none⟩ = some (.int .i64 a0_1) := (blk_cell BK156.out 1).trans rfl
            have hcz14_2 : w6.cell? ⟨gb156, 2, none⟩ = some (.slice A0_2 l0_2.length c0_2) := (blk_cell BK156.out 2).trans rfl
            have hfz14_0 := blk_frozen BK156.out 0
            have hfz14_1 := blk_frozen BK156.out 1
            have hfz14_2 := blk_frozen BK156.out 2
            go_wp2
            go_meet
            case rel => exact ⟨_, (decide ((l0_2.length : Int) > 253)), (by first | rfl | (simp; done) | (simp [*]; done)), H', ⟨by first | omega | exact Nat.le_refl _⟩, ⟨by (with_reducible repeat (first | apply Kd.R_alloc | apply Kd.R_drewN | apply Kd.R_drew)); exact HO160.out⟩, ⟨by (with_reducible repeat (first | refine blk_drewN ?_ _ | refine blk_drew ?_ | refine blk_alloc ?_ _)); exact BK156.out⟩, ⟨by repeat (first | (with_reducible first | exact HB.out | apply below_alloc | apply pw_below_drewN | apply below_drew1 | refine below_set ?_ GE156.out) | exact HB.out)⟩⟩
    · rw [if_neg c7] at H
      have c7b0 : (t158 == 0) = false := beq_eq_false_iff_ne.mpr c7
      have c7b1 : (t158 != 0) = true := bne_iff_ne.mpr c7
      (first | rw [c7b0] | (simp only [i64_w, i32_w]; rw [c7b0]) | skip)
      have H' := Aside0.mk H
      clear H
      go_wp2
      go_meet
      case rel => exact ⟨_, (true), (by first | rfl | (simp; done) | (simp [*]; done)), H', ⟨by first | omega | exact Nat.le_refl _⟩, ⟨by (with_reducible repeat (first | apply Kd.R_alloc | apply Kd.R_drewN | apply Kd.R_drew)); exact HO160.out⟩, ⟨by (with_reducible repeat (first | refine blk_drewN ?_ _ | refine blk_drew ?_ | refine blk_alloc ?_ _)); exact BK156.out⟩, ⟨by repeat (first | (with_reducible first | exact HB.out | apply below_alloc | apply pw_below_drewN | apply below_drew1 | refine below_set ?_ GE156.out) | exact HB.out)⟩⟩
  case rest =>
    clear HC3
    try clear c1
    try clear p2
    try clear c3
    try clear c7
    try clear c7b0
    try clear c7b1
    try clear c8
    try clear c8b0
    try clear c10
    try clear c10b0
    try clear c12
    try clear c12b0
    try clear c12b1
    try clear hcz11_0
    try clear hcz11_1
    try clear hcz11_2
    try clear hcz13_0
    try clear hcz13_1
    try clear hcz13_2
    try clear hcz14_0
    try clear hcz14_1
    try clear hcz14_2
    try clear hcz5_0
    try clear hcz5_1
    try clear hcz5_2
    try clear hcz9_0
    try clear hcz9_1
    try clear hcz9_2
    try clear hfz11_0
    try clear hfz11_1
    try clear hfz11_2
    try clear hfz13_0
    try clear hfz13_1
    try clear hfz13_2
    try clear hfz14_0
    try clear hfz14_1
    try clear hfz14_2
    try clear hfz5_0
    try clear hfz5_1
    try clear hfz5_2
    try clear hfz9_0
    try clear hfz9_1
    try clear hfz9_2
    obtain ⟨kq, x35_2, rfl, HA, HJ2, HO_4, BK156, HB⟩ := hcut
    cases kq with
    | zero => exact absurd HA.out (by simp [mbap_Frame.j0])
    | succ kj2 =>
      have H := HA.out
      clear HA
      simp only [mbap_Frame.j0] at H
      by_cases c15 : x35_2 = true
      · subst c15
        have H1 : (some (([] : List Int), 1)) = some (r1, r2) := by rw [if_pos rfl] at H; exact H
        clear H
        have H := H1
        clear H1
        simp only [Option.some.injEq, Prod.mk.injEq] at H
        obtain ⟨rfl, rfl⟩ := H
        go_wp2
        go_ret2
        exact ⟨_, by first | rfl | (simp [errW_none, errW_some] <;> rfl) | (simp [*, errW_none, errW_some] <;> rfl), by first | exact Kd.R_nil _ _ _ _ _ | exact Kd.N_nil _ _ _ _ _ | exact Kd.V_nil _ _ _ _ _ | exact Kd.Q_nil _ _ _ _ _ | exact Kd.S_nil _ _ _ _ _, by repeat (first | (with_reducible first | exact HB.out | apply below_alloc | apply pw_below_drewN | apply below_drew1 | refine below_set ?_ GE156.out) | exact HB.out)⟩
      · replace c15 := Bool.eq_false_iff.mpr c15
        subst c15
        have H1 : ((wire_Put.f t157 0).bind fun bt161 => ((wire_Put.f bt161.1 (wrap64 ((l0_2.length : Int) + 1))).bind fun bt165 => (if bt165.1.length < 140737488355328 then ((some (bt165.1 ++ [(a0_1) % 256] : List Int)).bind fun y169 => (if y169.length + l0_2.length < 140737488355328 then (some ((y169 ++ l0_2), 0)) else (none))) else (none)))) = some (r1, r2) := by rw [if_neg (show ¬ (false = true) by decide)] at H; exact H
        clear H
        have H := H1
        clear H1
        replace H := Option.bind_eq_some_iff.mp H
        obtain ⟨⟨t161, t162⟩, A160, H⟩ := H
        replace H : ((wire_Put.f t161 (wrap64 ((l0_2.length : Int) + 1))).bind fun bt165 => (if bt165.1.length < 140737488355328 then ((some (bt165.1 ++ [(a0_1) % 256] : List Int)).bind fun y169 => (if y169.length + l0_2.length < 140737488355328 then (some ((y169 ++ l0_2), 0)) else (none))) else (none))) = some (r1, r2) := H
        have A16 := Aside0.mk A160
        clear A160
        replace H := Option.bind_eq_some_iff.mp H
        obtain ⟨⟨t165, t166⟩, A170, H⟩ := H
        replace H : (if t165.length < 140737488355328 then ((some (t165 ++ [(a0_1) % 256] : List Int)).bind fun y169 => (if y169.length + l0_2.length < 140737488355328 then (some ((y169 ++ l0_2), 0)) else (none))) else (none)) = some (r1, r2) := H
        have A17 := Aside0.mk A170
        clear A170
        by_cases c18 : t165.length < 140737488355328
        · rw [if_pos c18] at H
          have LMc18 := Aside0.mk c18
          clear c18
          obtain ⟨y169, hy169⟩ : ∃ y_ : List Int, y_ = (t165 ++ [(a0_1) % 256]) := ⟨_, rfl⟩
          replace H : (if y169.length + l0_2.length < 140737488355328 then (some ((y169 ++ l0_2), 0)) else (none)) = some (r1, r2) := by first | (rw [hy169]; with_reducible exact H) | (have H2_ := (Option.bind_some _ _).symm.trans H; rw [hy169]; with_reducible exact H2_) | (have H2_ := (Option.bind_some _ _).symm.trans H; with_reducible exact H2_) | with_reducible exact H | (rw [hy169]; exact H) | exact H
          have Ny169 := Aside0.mk hy169
          clear hy169
          by_cases c19 : y169.length + l0_2.length < 140737488355328
          · rw [if_pos c19] at H
            have LMc19 := Aside0.mk c19
            clear c19
            obtain ⟨y172, hy172⟩ : ∃ y_ : List Int, y_ = (y169 ++ l0_2) := ⟨_, rfl⟩
            replace H : (some (y172, 0)) = some (r1, r2) := by first | (rw [hy172]; with_reducible exact H) | (have H2_ := (Option.bind_some _ _).symm.trans H; rw [hy172]; with_reducible exact H2_) | (have H2_ := (Option.bind_some _ _).symm.trans H; with_reducible exact H2_) | with_reducible exact H | (rw [hy172]; exact H) | exact H
            have Ny172 := Aside0.mk hy172
            clear hy172
            simp only [Option.some.injEq, Prod.mk.injEq] at H
            obtain ⟨rfl, rfl⟩ := H
            obtain ⟨Ao20, co20, eo20⟩ := Kd.R_slice HO_4.out
            subst eo20
            try go_wp2_with (first | ((with_reducible refine gate_callee (f := 35) rfl ?_); refine goesL_ (some 38) rfl rfl Try.func35 (by kernel_rfl) rfl #[.slice Ao20 t157.length co20, .int .i64 0] rfl (by (try simp only [List.map_toArray, List.map_cons, List.map_nil]); first | done | rfl | (simp only [List.length_drop, List.length_take]; rfl)) ?_; (with_reducible refine (wire_Put.calls _ _ t157 0 t161 t162 _ ?side1 ?side2 A16.out).mono ?_); (case side1 => repeat (first | exact (Kd.R_reads' HO_4.out).2.2 | (with_reducible refine Kd.C_alloc ?_ _) | (with_reducible refine Kd.C_drewN ?_ _) | (with_reducible refine Kd.C_drew ?_))); (case side2 => exact (Kd.R_reads' HO_4.out).2.1); rintro e w21 ⟨v163, rfl, ho0, hb⟩; refine ⟨_, rfl, ?_⟩; have n0_ := Aside0.mk (Kd.R_elder' (by (with_reducible repeat (first | apply Kd.R_alloc | apply Kd.R_drewN | apply Kd.R_drew)); exact HO_4.out) (Kd.R_base ho0) hb); have n1_ := Aside0.mk (Kd.R_lower (Kd.R_new' ho0 (Kd.R_lt (by (with_reducible repeat (first | apply Kd.R_alloc | apply Kd.R_drewN | apply Kd.R_drew)); exact HO_4.out))) (below_size (by repeat (first | (with_reducible first | exact HB.out | apply below_alloc | apply pw_below_drewN | apply below_drew1 | refine below_set ?_ GE156.out) | exact HB.out)))); have n2_ := Aside0.mk (blk_below (g := gb156) (o := .cells #[.int .i64 a0_0, .int .i64 a0_1, .slice A0_2 l0_2.length c0_2] 37 (0, 0)) (by (with_reducible repeat (first | refine blk_drewN ?_ _ | refine blk_drew ?_ | refine blk_alloc ?_ _)); exact BK156.out) hb); have n3_ := Aside0.mk (below_step (by repeat (first | (with_reducible first | exact HB.out | apply below_alloc | apply pw_below_drewN | apply below_drew1 | refine below_set ?_ GE156.out) | exact HB.out)) hb); clear HO_4; clear BK156; clear HB; have HO_4 := n0_; have HO164 := n1_; have BK156 := n2_; have HB := n3_; clear n0_ n1_ n2_ n3_; (try clear hb); (try clear hb2); (try clear hk); (try clear hi); (try clear ho0); have hcz22_0 : w21.cell? ⟨gb156, 0, none⟩ = some (.int .i64 a0_0) := (blk_cell BK156.out 0).trans rfl; have hcz22_1 : w21.cell? ⟨gb156, 1, none⟩ = some (.int .i64 a0_1) := (blk_cell BK156.out 1).trans rfl; have hcz22_2 : w21.cell? ⟨gb156, 2, none⟩ = some (.slice A0_2 l0_2.length c0_2) := (blk_cell BK156.out 2).trans rfl; have hfz22_0 := blk_frozen BK156.out 0; have hfz22_1 := blk_frozen BK156.out 1; have hfz22_2 := blk_frozen BK156.out 2; obtain ⟨Ao23, co23, eo23⟩ := Kd.R_slice HO164.out; subst eo23) | ((with_reducible refine gate_callee (f := 35) rfl ?_); refine goesL_ (some 47) rfl rfl Try.func35 (by kernel_rfl) rfl #[.slice Ao23 t161.length co23, .int .i64 (wrap64 ((l0_2.length : Int) + 1))] rfl (by (try simp only [List.map_toArray, List.map_cons, List.map_nil]); first | done | rfl | (simp only [List.length_drop, List.length_take]; rfl)) ?_; (with_reducible refine (wire_Put.calls _ _ t161 (wrap64 ((l0_2.length : Int) + 1)) t165 t166 _ ?side1 ?side2 A17.out).mono ?_); (case side1 => repeat (first | exact (Kd.R_reads' HO164.out).2.2 | (with_reducible refine Kd.C_alloc ?_ _) | (with_reducible refine Kd.C_drewN ?_ _) | (with_reducible refine Kd.C_drew ?_))); (case side2 => exact (Kd.R_reads' HO164.out).2.1); rintro e w24 ⟨v167, rfl, ho0, hb⟩; refine ⟨_, rfl, ?_⟩; have n0_ := Aside0.mk (Kd.R_elder' (by (with_reducible repeat (first | apply Kd.R_alloc | apply Kd.R_drewN | apply Kd.R_drew)); exact HO_4.out) (Kd.R_base ho0) hb); have n1_ := Aside0.mk (Kd.R_elder' (by (with_reducible repeat (first | apply Kd.R_alloc | apply Kd.R_drewN | apply Kd.R_drew)); exact HO164.out) (Kd.R_base ho0) hb); have n2_ := Aside0.mk (Kd.R_lower (Kd.R_new' (Kd.R_new' ho0 (Kd.R_lt (by (with_reducible repeat (first | apply Kd.R_alloc | apply Kd.R_drewN | apply Kd.R_drew)); exact HO_4.out))) (Kd.R_lt (by (with_reducible repeat (first | apply Kd.R_alloc | apply Kd.R_drewN | apply Kd.R_drew)); exact HO164.out))) (below_size (by repeat (first | (with_reducible first | exact HB.out | apply below_alloc | apply pw_below_drewN | apply below_drew1 | refine below_set ?_ GE156.out) | exact HB.out)))); have n3_ := Aside0.mk (blk_below (g := gb156) (o := .cells #[.int .i64 a0_0, .int .i64 a0_1, .slice A0_2 l0_2.length c0_2] 37 (0, 0)) (by (with_reducible repeat (first | refine blk_drewN ?_ _ | refine blk_drew ?_ | refine blk_alloc ?_ _)); exact BK156.out) hb); have n4_ := Aside0.mk (below_step (by repeat (first | (with_reducible first | exact HB.out | apply below_alloc | apply pw_below_drewN | apply below_drew1 | refine below_set ?_ GE156.out) | exact HB.out)) hb); clear HO_4; clear HO164; clear BK156; clear HB; have HO_4 := n0_; have HO164 := n1_; have HO168 := n2_; have BK156 := n3_; have HB := n4_; clear n0_ n1_ n2_ n3_ n4_; (try clear hb); (try clear hb2); (try clear hk); (try clear hi); (try clear ho0)))
            have n0_ := Aside0.mk (Kd.R_drew HO_4.out)
            have n1_ := Aside0.mk (Kd.R_drew HO164.out)
            have n2_ := Aside0.mk (Kd.R_drew HO168.out)
            have n3_ := Aside0.mk (blk_drew BK156.out)
            have n4_ := Aside0.mk (below_drew1 HB.out)
            clear HO_4
            clear HO164
            clear HO168
            clear BK156
            clear HB
            have HO_4 := n0_
            have HO164 := n1_
            have HO168 := n2_
            have BK156 := n3_
            have HB := n4_
            clear n0_ n1_ n2_ n3_ n4_
            refine start_ (n := 11) (S := fun w' => w'.cell? ⟨gb156, 0, none⟩ = some (.int .i64 a0_0) ∧ w'.cell? ⟨gb156, 1, none⟩ = some (.int .i64 a0_1) ∧ w'.cell? ⟨gb156, 2, none⟩ = some (.slice A0_2 l0_2.length c0_2)) (ds := []) #[false, false, false, false, false, false, false, false, false, false, false] (by kernel_rfl) rfl rfl ⟨(blk_cell BK156.out 0).trans rfl, (blk_cell BK156.out 1).trans rfl, (blk_cell BK156.out 2).trans rfl⟩ (fun hHeld => ?_); refine with_tabW mbap_Frame.tab6 mbap_Frame.bits6 (fun HT_ HW_ => ?_)
            generalize w24.drew = w25 at HO_4 HO164 HO168 BK156 HB hHeld ⊢
            refine pure_ (i := 0) (N := some 50) (v := ?_) (a' := ?_) #[true, false, false, false, false, false, false, false, false, false, false] rfl rfl (any_of HT_.out (by kernel_rfl)) (fun _ _ _ h => h) (Or.inl ⟨by rfl, ?_⟩) ?_ ?_
            rotate_left
            · intro w'
              go_simp
              with_reducible rfl
            rotate_left
            · simp only [Act.put, List.setIfInBounds_toArray, List.set_cons_zero, List.set_cons_succ, i64_w, i32_w]
              rfl
            refine pure_ (i := 1) (N := some 51) (v := ?_) (a' := ?_) #[true, true, false, false, false, false, false, false, false, false, false] rfl rfl (any_of HT_.out (by kernel_rfl)) (fun _ _ _ h => h) (Or.inl ⟨by rfl, ?_⟩) ?_ ?_
            rotate_left
            · intro w'
              go_simp
              with_reducible rfl
            rotate_left
            · simp only [Act.put, List.setIfInBounds_toArray, List.set_cons_zero, List.set_cons_succ, i64_w, i32_w]
              rfl
            refine pure_ (i := 6) (N := some 56) (v := ?_) (a' := ?_) #[true, true, false, false, false, false, true, false, false, false, false] rfl rfl (any_of HT_.out (by kernel_rfl)) (fun _ _ _ h => h) (Or.inl ⟨by rfl, ?_⟩) ?_ ?_
            rotate_left
            · intro w'
              go_simp
              with_reducible rfl
            rotate_left
            · simp only [Act.put, List.setIfInBounds_toArray, List.set_cons_zero, List.set_cons_succ, i64_w, i32_w]
              rfl
            refine take_ (i := 2) (N := some 52) (v := ?_) (a' := ?_) #[true, true, true, false, false, false, true, false, false, false, false] rfl rfl (take_ofW HT_.out HW_.out (by kernel_rfl)) (fun _ _ _ h => h) (Or.inl ⟨by rfl, ?_⟩) hHeld ?_ ?_
            rotate_left
            · rintro w' ⟨s0, s1, s2⟩
              go_simp
              with_reducible rfl
            rotate_left
            · simp only [Act.put, List.setIfInBounds_toArray, List.set_cons_zero, List.set_cons_succ, i64_w, i32_w]
              rfl
            refine pure_ (i := 3) (N := some 53) (v := ?_) (a' := ?_) #[true, true, true, true, false, false, true, false, false, false, false] rfl rfl (any_of HT_.out (by kernel_rfl)) (fun _ _ _ h => h) (Or.inl ⟨by rfl, ?_⟩) ?_ ?_
            rotate_left
            · intro w'
              go_simp
              with_reducible rfl
            rotate_left
            · simp only [Act.put, List.setIfInBounds_toArray, List.set_cons_zero, List.set_cons_succ, i64_w, i32_w]
              rfl
            refine take_ (i := 7) (N := some 57) (v := ?_) (a' := ?_) #[true, true, true, true, false, false, true, true, false, false, false] rfl rfl (take_ofW HT_.out HW_.out (by kernel_rfl)) (fun _ _ _ h => h) (Or.inl ⟨by rfl, ?_⟩) hHeld ?_ ?_
            rotate_left
            · rintro w' ⟨s0, s1, s2⟩
              go_simp
              with_reducible rfl
            rotate_left
            · simp only [Act.put, List.setIfInBounds_toArray, List.set_cons_zero, List.set_cons_succ, i64_w, i32_w]
              rfl
            refine one_ (i := 4) (N := some 54) #[true, true, true, true, true, false, true, true, false, false, false] rfl rfl (one_of HT_.out (by kernel_rfl)) (by decide) (fun K hK => ?_)
            refine value_ (w1 := ?_) (v := ?_) (by rfl) rfl ?_ ?_
            rotate_left 2
            · go_simp
              constructor
              · rfl
              · rfl
            refine hK.out _ _ ⟨(blk_cell (blk_alloc BK156.out _) 0).trans rfl, (blk_cell (blk_alloc BK156.out _) 1).trans rfl, (blk_cell (blk_alloc BK156.out _) 2).trans rfl⟩ (fun hHeld => ?_)
            clear hK K
            refine norm_ (a' := ?_) ?_ ?_
            rotate_left
            · show Act.put _ (some 54) _ = _
              simp only [Act.put, List.setIfInBounds_toArray, List.set_cons_zero, List.set_cons_succ, i64_w, i32_w]
              rfl
            refine one_ (i := 5) (N := some 55) #[true, true, true, true, true, true, true, true, false, false, false] rfl rfl (one_of HT_.out (by kernel_rfl)) (by decide) (fun K hK => ?_)
            refine Kd.R_append_step (Kd.int .u8) (w0 := w) w.heap.size (by rfl) (.tmp 50) (.tmp 54) 22 5 (.int .u8 0) 1 rfl Try.underlying22 info5 rfl (by decide) (by omega) v167 t165 ((a0_1) % 256) [.int .u8 ((a0_1) % 256)] (fun k_ => some k_ ≠ (.slice Ao20 t157.length co20 : Value).ownBlock ∧ some k_ ≠ (.slice Ao23 t161.length co23 : Value).ownBlock) (fun _ => False) rfl rfl ?aP (fun _ hk => hk.elim) ?aF ?aO ?aB ?aS ?aL ?_
            (case aP => exact rfl)
            (case aB => exact (by repeat (first | (with_reducible first | exact HB.out | apply below_alloc | apply pw_below_drewN | apply below_drew1 | refine below_set ?_ GE156.out) | exact HB.out)))
            (case aF => exact (fun k_ hk => ⟨Kd.fresh' (Kd.R_lt (by (with_reducible repeat (first | apply Kd.R_alloc | apply Kd.R_drewN | apply Kd.R_drew)); exact HO_4.out)) k_ hk, Kd.fresh' (Kd.R_lt (by (with_reducible repeat (first | apply Kd.R_alloc | apply Kd.R_drewN | apply Kd.R_drew)); exact HO164.out)) k_ hk⟩))
            (case aO => exact (by (with_reducible repeat (first | apply Kd.R_alloc | apply Kd.R_drewN | apply Kd.R_drew)); exact Kd.R_mono HO168.out (fun _ hk => ⟨hk.1.2, hk.2⟩)))
            (case aS => exact (below_size (by repeat (first | (with_reducible first | exact HB.out | apply below_alloc | apply pw_below_drewN | apply below_drew1 | refine below_set ?_ GE156.out) | exact HB.out))))
            (case aL => have := LMc18.out; omega)
            intro v170 w26 ho hb hg hat
            rw [← Ny169.out] at ho
            have n0_ := Aside0.mk (Kd.R_after (ok := (fun k_ => some k_ ≠ (.slice Ao23 t161.length co23 : Value).ownBlock)) (by (with_reducible repeat (first | apply Kd.R_alloc | apply Kd.R_drewN | apply Kd.R_drew)); exact Kd.R_mono HO_4.out (fun _ hk => ⟨hk.1.2, hk.2⟩)) hg hat)
            have n1_ := Aside0.mk (blk_grown (g := gb156) (o := .cells #[.int .i64 a0_0, .int .i64 a0_1, .slice A0_2 l0_2.length c0_2] 37 (0, 0)) (by (with_reducible repeat (first | refine blk_drewN ?_ _ | refine blk_drew ?_ | refine blk_alloc ?_ _)); exact BK156.out) hg (Kd.R_ne HO168.out BK156.out (by decide)))
            have n2_ := Aside0.mk (Kd.R_after (ok := (fun k_ => some k_ ≠ (.slice Ao20 t157.length co20 : Value).ownBlock)) (by (with_reducible repeat (first | apply Kd.R_alloc | apply Kd.R_drewN | apply Kd.R_drew)); exact Kd.R_mono HO164.out (fun _ hk => ⟨hk.1.2, hk.2⟩)) hg hat)
            have n3_ := Aside0.mk (hb)
            have n4_ := Aside0.mk (ho)
            clear HO_4
            clear BK156
            clear HO164
            clear HB
            clear HO168
            have HO_4 := n0_
            have BK156 := n1_
            have HO164 := n2_
            have HB := n3_
            have HO171 := n4_
            clear n0_ n1_ n2_ n3_ n4_
            clear ho hb hg hat
            refine hK.out _ _ ⟨(blk_cell BK156.out 0).trans rfl, (blk_cell BK156.out 1).trans rfl, (blk_cell BK156.out 2).trans rfl⟩ (fun hHeld => ?_)
            clear hK K
            refine norm_ (a' := ?_) ?_ ?_
            rotate_left
            · show Act.put _ (some 55) _ = _
              simp only [Act.put, List.setIfInBounds_toArray, List.set_cons_zero, List.set_cons_succ, i64_w, i32_w]
              rfl
            refine one_ (i := 8) (N := some 58) #[true, true, true, true, true, true, true, true, true, false, false] rfl rfl (one_of HT_.out (by kernel_rfl)) (by decide) (fun K hK => ?_)
            refine Kd.R_append_rows_step (Kd.int .u8) (w0 := w) w.heap.size (by rfl) (.tmp 55) (.tmp 57) 22 5 (.int .u8 0) 1 rfl Try.underlying22 info5 rfl (by decide) (by omega) v170 y169 l0_2 _ _ _ (fun k_ => some k_ ≠ (.slice Ao20 t157.length co20 : Value).ownBlock ∧ some k_ ≠ (.slice Ao23 t161.length co23 : Value).ownBlock) (fun _ => False) rfl rfl ?aO ?aR (fun _ _ h => h) (fun _ h => h.elim) ?aF ?aB ?aS ?aL ?_
            (case aR => repeat (first | exact (Kd.C_below HR0_2.out HB.out) | (with_reducible refine Kd.C_alloc ?_ _) | (with_reducible refine Kd.C_drewN ?_ _) | (with_reducible refine Kd.C_drew ?_)))
            (case aB => exact (by repeat (first | (with_reducible first | exact HB.out | apply below_alloc | apply pw_below_drewN | apply below_drew1 | refine below_set ?_ GE156.out) | exact HB.out)))
            (case aF => exact (fun k_ hk => ⟨Kd.fresh' (Kd.R_lt (by (with_reducible repeat (first | apply Kd.R_alloc | apply Kd.R_drewN | apply Kd.R_drew)); exact HO_4.out)) k_ hk, Kd.fresh' (Kd.R_lt (by (with_reducible repeat (first | apply Kd.R_alloc | apply Kd.R_drewN | apply Kd.R_drew)); exact HO164.out)) k_ hk⟩))
            (case aO => exact (by (with_reducible repeat (first | apply Kd.R_alloc | apply Kd.R_drewN | apply Kd.R_drew)); exact HO171.out))
            (case aS => exact (below_size (by repeat (first | (with_reducible first | exact HB.out | apply below_alloc | apply pw_below_drewN | apply below_drew1 | refine below_set ?_ GE156.out) | exact HB.out))))
            (case aL => have := LMc19.out; omega)
            intro v173 w27 ho hb hg hat
            rw [← Ny172.out] at ho
            have n0_ := Aside0.mk (Kd.R_after (ok := (fun k_ => some k_ ≠ (.slice Ao23 t161.length co23 : Value).ownBlock)) (by (with_reducible repeat (first | apply Kd.R_alloc | apply Kd.R_drewN | apply Kd.R_drew)); exact HO_4.out) hg hat)
            have n1_ := Aside0.mk (blk_grown (g := gb156) (o := .cells #[.int .i64 a0_0, .int .i64 a0_1, .slice A0_2 l0_2.length c0_2] 37 (0, 0)) (by (with_reducible repeat (first | refine blk_drewN ?_ _ | refine blk_drew ?_ | refine blk_alloc ?_ _)); exact BK156.out) hg (Kd.R_ne HO171.out BK156.out (by decide)))
            have n2_ := Aside0.mk (Kd.R_after (ok := (fun k_ => some k_ ≠ (.slice Ao20 t157.length co20 : Value).ownBlock)) (by (with_reducible repeat (first | apply Kd.R_alloc | apply Kd.R_drewN | apply Kd.R_drew)); exact HO164.out) hg hat)
            have n3_ := Aside0.mk (hb)
            have n4_ := Aside0.mk (ho)
            clear HO_4
            clear BK156
            clear HO164
            clear HB
            clear HO171
            have HO_4 := n0_
            have BK156 := n1_
            have HO164 := n2_
            have HB := n3_
            have HO174 := n4_
            clear n0_ n1_ n2_ n3_ n4_
            clear ho hb hg hat
            refine hK.out _ _ ⟨(blk_cell BK156.out 0).trans rfl, (blk_cell BK156.out 1).trans rfl, (blk_cell BK156.out 2).trans rfl⟩ (fun hHeld => ?_)
            clear hK K
            refine norm_ (a' := ?_) ?_ ?_
            rotate_left
            · show Act.put _ (some 58) _ = _
              simp only [Act.put, List.setIfInBounds_toArray, List.set_cons_zero, List.set_cons_succ, i64_w, i32_w]
              rfl
            refine pure_ (i := 9) (N := some 2) (v := ?_) (a' := ?_) #[true, true, true, true, true, true, true, true, true, true, false] rfl rfl (any_of HT_.out (by kernel_rfl)) (fun _ _ _ h => h) (Or.inl ⟨by rfl, ?_⟩) ?_ ?_
            rotate_left
            · intro w'
              go_simp
              with_reducible rfl
            rotate_left
            · simp only [Act.put, List.setIfInBounds_toArray, List.set_cons_zero, List.set_cons_succ, i64_w, i32_w]
              rfl
            refine pure_ (i := 10) (N := some 3) (v := ?_) (a' := ?_) #[true, true, true, true, true, true, true, true, true, true, true] rfl rfl (any_of HT_.out (by kernel_rfl)) (fun _ _ _ h => h) (Or.inl ⟨by rfl, ?_⟩) ?_ ?_
            rotate_left
            · intro w'
              go_simp
              with_reducible rfl
            rotate_left
            · simp only [Act.put, List.setIfInBounds_toArray, List.set_cons_zero, List.set_cons_succ, i64_w, i32_w]
              rfl
            refine done_ (done_of HT_.out (by kernel_rfl)) ?_
            try go_wp2
            go_ret2
            exact ⟨_, by first | rfl | (simp [errW_none, errW_some] <;> rfl) | (simp [*, errW_none, errW_some] <;> rfl), by (with_reducible repeat (first | apply Kd.R_alloc | apply Kd.R_drewN | apply Kd.R_drew)); exact Kd.R_mono HO174.out (fun _ hk => trivial), by repeat (first | (with_reducible first | exact HB.out | apply below_alloc | apply pw_below_drewN | apply below_drew1 | refine below_set ?_ GE156.out) | exact HB.out)⟩
          · rw [if_neg c19] at H
            exact absurd H (by simp)
        · rw [if_neg c18] at H
          exact absurd H (by simp)

end Go.Proofs.Ytabjlanomebonaa.PB

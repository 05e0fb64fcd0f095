/- The words, contracts and walks that this claim leans on, put together by a program of this session (part 3). -/
import Derived.Test.YtlalpooiegganaaZO2
section
namespace Go.Proofs.Ytlalpooiegganaa.PQ
open Go.RowKit Go.Proofs.YtlalpooiegganaaW.PrintWords Go.Proofs.YtlalpooiegganaaW.PrintLast Go.Proofs.YtlalpooiegganaaW.PrintMore
attribute [local go_sem] max2_int min2_int max_two min_two max_three min_three max_four min_four   
set_option linter.unusedVariables false
set_option linter.unusedSimpArgs false
open Go.Proofs.Ytlalpooiegganaa.Ext Go.Proofs.Ytlalpooiegganaa.PP Go.Proofs.Ytlalpooiegganaa.ExtF Go.Proofs.Ytlalpooiegganaa.ExtH
mutual
def pdu_AnswerBytes.j0 : Nat → Bool → Int → Int → Int → List Int → Int → Int → Int → List Int → Int → Option (List Int × Int)
  | 0, _, _, _, _, _, _, _, _, _, _ => none
  | k + 1, x15, x142000, x142001, x142002, x142003, x142004, x142005, x142006, x143000, x143001 => if x15 = true then (some (([] : List Int), 1)) else (if x143001 = 0 then ((some (([(x142000) % 256] : List Int) : List Int)).bind fun y148 => (if x142000 = 1 then (pdu_AnswerBytes.j1 k y148 x142000 (x142000 == 1) x142000 x142001 x142002 x142003 x142004 x142005 x142006 x143000 x143001) else (pdu_AnswerBytes.j1 k y148 x142000 (x142000 == 2) x142000 x142001 x142002 x142003 x142004 x142005 x142006 x143000 x143001))) else (some ((([Go.bits .or .u8 ((x142000) % 256) 128, (x143001) % 256] : List Int)), 0)))
def pdu_AnswerBytes.j1 : Nat → List Int → Int → Bool → Int → Int → Int → List Int → Int → Int → Int → List Int → Int → Option (List Int × Int)
  | 0, _, _, _, _, _, _, _, _, _, _, _, _ => none
  | k + 1, x6, x32, x33, x142000, x142001, x142002, x142003, x142004, x142005, x142006, x143000, x143001 => if x33 = true then ((pdu_packed.f k x143000).bind fun t151 => ((pdu_counted.f x6 t151).bind fun t154 => (some (t154, 0)))) else (if x32 = 3 then (pdu_AnswerBytes.j2 k x6 x32 (x32 == 3) x142000 x142001 x142002 x142003 x142004 x142005 x142006 x143000 x143001) else (if x32 = 4 then (pdu_AnswerBytes.j2 k x6 x32 (x32 == 4) x142000 x142001 x142002 x142003 x142004 x142005 x142006 x143000 x143001) else (pdu_AnswerBytes.j2 k x6 x32 (x32 == 23) x142000 x142001 x142002 x142003 x142004 x142005 x142006 x143000 x143001)))
def pdu_AnswerBytes.j2 : Nat → List Int → Int → Bool → Int → Int → Int → List Int → Int → Int → Int → List Int → Int → Option (List Int × Int)
  | 0, _, _, _, _, _, _, _, _, _, _, _, _ => none
  | k + 1, x6, x32, x41, x142000, x142001, x142002, x142003, x142004, x142005, x142006, x143000, x143001 => if x41 = true then ((pdu_lay.f ([] : List Int) x143000).bind fun t157 => ((pdu_counted.f x6 t157).bind fun t160 => (some (t160, 0)))) else (if x32 = 15 then (pdu_AnswerBytes.j3 k x6 (x32 == 15) x142000 x142001 x142002 x142003 x142004 x142005 x142006) else (pdu_AnswerBytes.j3 k x6 (x32 == 16) x142000 x142001 x142002 x142003 x142004 x142005 x142006))
def pdu_AnswerBytes.j3 : Nat → List Int → Bool → Int → Int → Int → List Int → Int → Int → Int → Option (List Int × Int)
  | 0, _, _, _, _, _, _, _, _, _ => none
  | k + 1, x6, x50, x142000, x142001, x142002, x142003, x142004, x142005, x142006 => if x50 = true then ((pdu_lay.f x6 (([x142001, x142002] : List Int))).bind fun t166 => (some (t166, 0))) else ((pdu_Bytes.f x142000 x142001 x142002 x142003 x142004 x142005 x142006).bind fun bt169 => (some (bt169.1, bt169.2)))
end
def pdu_AnswerBytes.f (k : Nat) (a0_0 : Int) (a0_1 : Int) (a0_2 : Int) (l0_3 : List Int) (a0_4 : Int) (a0_5 : Int) (a0_6 : Int) (l1_0 : List Int) (a1_1 : Int) : Option (List Int × Int) := (pdu_Check.f a0_0 a0_1 a0_2 l0_3 a0_4 a0_5 a0_6).bind fun t143 => (if t143 = 0 then ((pdu_answer.f k a0_0 a0_1 a0_2 l0_3 a0_4 a0_5 a0_6 l1_0 a1_1).bind fun t144 => (pdu_AnswerBytes.j0 k (!t144) a0_0 a0_1 a0_2 l0_3 a0_4 a0_5 a0_6 l1_0 a1_1)) else (pdu_AnswerBytes.j0 k true a0_0 a0_1 a0_2 l0_3 a0_4 a0_5 a0_6 l1_0 a1_1))
theorem pdu_AnswerBytes.mono_l : ∀ k, (∀ y0 y1 y2 y3 y4 y5 y6 y7 y8 y9, LeO (pdu_AnswerBytes.j0 k y0 y1 y2 y3 y4 y5 y6 y7 y8 y9) (pdu_AnswerBytes.j0 (k + 1) y0 y1 y2 y3 y4 y5 y6 y7 y8 y9)) ∧ (∀ y0 y1 y2 y3 y4 y5 y6 y7 y8 y9 y10 y11, LeO (pdu_AnswerBytes.j1 k y0 y1 y2 y3 y4 y5 y6 y7 y8 y9 y10 y11) (pdu_AnswerBytes.j1 (k + 1) y0 y1 y2 y3 y4 y5 y6 y7 y8 y9 y10 y11)) ∧ (∀ y0 y1 y2 y3 y4 y5 y6 y7 y8 y9 y10 y11, LeO (pdu_AnswerBytes.j2 k y0 y1 y2 y3 y4 y5 y6 y7 y8 y9 y10 y11) (pdu_AnswerBytes.j2 (k + 1) y0 y1 y2 y3 y4 y5 y6 y7 y8 y9 y10 y11)) ∧ (∀ y0 y1 y2 y3 y4 y5 y6 y7 y8, LeO (pdu_AnswerBytes.j3 k y0 y1 y2 y3 y4 y5 y6 y7 y8) (pdu_AnswerBytes.j3 (k + 1) y0 y1 y2 y3 y4 y5 y6 y7 y8))
  | 0 => ⟨fun _ _ _ _ _ _ _ _ _ _ r h => by simp [pdu_AnswerBytes.j0] at h, fun _ _ _ _ _ _ _ _ _ _ _ _ r h => by simp [pdu_AnswerBytes.j1] at h, fun _ _ _ _ _ _ _ _ _ _ _ _ r h => by simp [pdu_AnswerBytes.j2] at h, fun _ _ _ _ _ _ _ _ _ r h => by simp [pdu_AnswerBytes.j3] at h⟩
  | k + 1 => by
    obtain ⟨ih0, ih1, ih2, ih3⟩ := pdu_AnswerBytes.mono_l k
    refine ⟨?_, ?_, ?_, ?_⟩
    · intro y0 y1 y2 y3 y4 y5 y6 y7 y8 y9
      unfold pdu_AnswerBytes.j0
      repeat' first
      | (with_reducible exact ih0 _ _ _ _ _ _ _ _ _ _)
      | (with_reducible exact ih1 _ _ _ _ _ _ _ _ _ _ _ _)
      | (with_reducible exact ih2 _ _ _ _ _ _ _ _ _ _ _ _)
      | (with_reducible exact ih3 _ _ _ _ _ _ _ _ _)
      | (with_reducible exact pdu_answer.mono _ _ _ _ _ _ _ _ _ _)
      | (with_reducible exact pdu_packed.mono _ _)
      | (with_reducible exact LeO.refl _)
      | (with_reducible exact LeO.none _)
      | (with_reducible refine LeO.ite ?_ ?_)
      | (with_reducible refine LeO.bind ?_ (fun _ => ?_))
      | exact ih0 _ _ _ _ _ _ _ _ _ _
      | exact ih1 _ _ _ _ _ _ _ _ _ _ _ _
      | exact ih2 _ _ _ _ _ _ _ _ _ _ _ _
      | exact ih3 _ _ _ _ _ _ _ _ _
      | exact pdu_answer.mono _ _ _ _ _ _ _ _ _ _
      | exact pdu_packed.mono _ _
      | exact LeO.none _
      | refine LeO.ite ?_ ?_
      | refine LeO.bind ?_ (fun _ => ?_)
    · intro y0 y1 y2 y3 y4 y5 y6 y7 y8 y9 y10 y11
      unfold pdu_AnswerBytes.j1
      repeat' first
      | (with_reducible exact ih0 _ _ _ _ _ _ _ _ _ _)
      | (with_reducible exact ih1 _ _ _ _ _ _ _ _ _ _ _ _)
      | (with_reducible exact ih2 _ _ _ _ _ _ _ _ _ _ _ _)
      | (with_reducible exact ih3 _ _ _ _ _ _ _ _ _)
      | (with_reducible exact pdu_answer.mono _ _ _ _ _ _ _ _ _ _)
      | (with_reducible exact pdu_packed.mono _ _)
      | (with_reducible exact LeO.refl _)
      | (with_reducible exact LeO.none _)
      | (with_reducible refine LeO.ite ?_ ?_)
      | (with_reducible refine LeO.bind ?_ (fun _ => ?_))
      | exact ih0 _ _ _ _ _ _ _ _ _ _
      | exact ih1 _ _ _ _ _ _ _ _ _ _ _ _
      | exact ih2 _ _ _ _ _ _ _ _ _ _ _ _
      | exact ih3 _ _ _ _ _ _ _ _ _
      | exact pdu_answer.mono _ _ _ _ _ _ _ _ _ _
      | exact pdu_packed.mono _ _
      | exact LeO.none _
      | refine LeO.ite ?_ ?_
      | refine LeO.bind ?_ (fun _ => ?_)
    · intro y0 y1 y2 y3 y4 y5 y6 y7 y8 y9 y10 y11
      unfold pdu_AnswerBytes.j2
      repeat' first
      | (with_reducible exact ih0 _ _ _ _ _ _ _ _ _ _)
      | (with_reducible exact ih1 _ _ _ _ _ _ _ _ _ _ _ _)
      | (with_reducible exact ih2 _ _ _ _ _ _ _ _ _ _ _ _)
      | (with_reducible exact ih3 _ _ _ _ _ _ _ _ _)
      | (with_reducible exact pdu_answer.mono _ _ _ _ _ _ _ _ _ _)
      | (with_reducible exact pdu_packed.mono _ _)
      | (with_reducible exact LeO.refl _)
      | (with_reducible exact LeO.none _)
      | (with_reducible refine LeO.ite ?_ ?_)
      | (with_reducible refine LeO.bind ?_ (fun _ => ?_))
      | exact ih0 _ _ _ _ _ _ _ _ _ _
      | exact ih1 _ _ _ _ _ _ _ _ _ _ _ _
      | exact ih2 _ _ _ _ _ _ _ _ _ _ _ _
      | exact ih3 _ _ _ _ _ _ _ _ _
      | exact pdu_answer.mono _ _ _ _ _ _ _ _ _ _
      | exact pdu_packed.mono _ _
      | exact LeO.none _
      | refine LeO.ite ?_ ?_
      | refine LeO.bind ?_ (fun _ => ?_)
    · intro y0 y1 y2 y3 y4 y5 y6 y7 y8
      unfold pdu_AnswerBytes.j3
      repeat' first
      | (with_reducible exact ih0 _ _ _ _ _ _ _ _ _ _)
      | (with_reducible exact ih1 _ _ _ _ _ _ _ _ _ _ _ _)
      | (with_reducible exact ih2 _ _ _ _ _ _ _ _ _ _ _ _)
      | (with_reducible exact ih3 _ _ _ _ _ _ _ _ _)
      | (with_reducible exact pdu_answer.mono _ _ _ _ _ _ _ _ _ _)
      | (with_reducible exact pdu_packed.mono _ _)
      | (with_reducible exact LeO.refl _)
      | (with_reducible exact LeO.none _)
      | (with_reducible refine LeO.ite ?_ ?_)
      | (with_reducible refine LeO.bind ?_ (fun _ => ?_))
      | exact ih0 _ _ _ _ _ _ _ _ _ _
      | exact ih1 _ _ _ _ _ _ _ _ _ _ _ _
      | exact ih2 _ _ _ _ _ _ _ _ _ _ _ _
      | exact ih3 _ _ _ _ _ _ _ _ _
      | exact pdu_answer.mono _ _ _ _ _ _ _ _ _ _
      | exact pdu_packed.mono _ _
      | exact LeO.none _
      | refine LeO.ite ?_ ?_
      | refine LeO.bind ?_ (fun _ => ?_)
theorem pdu_AnswerBytes.mono : ∀ a0 a1 a2 a3 a4 a5 a6 a7 a8 k, LeO (pdu_AnswerBytes.f k a0 a1 a2 a3 a4 a5 a6 a7 a8) (pdu_AnswerBytes.f (k + 1) a0 a1 a2 a3 a4 a5 a6 a7 a8) := by
  intro a0 a1 a2 a3 a4 a5 a6 a7 a8 k
  obtain ⟨ih0, ih1, ih2, ih3⟩ := pdu_AnswerBytes.mono_l k
  unfold pdu_AnswerBytes.f
  repeat' first
      | (with_reducible exact ih0 _ _ _ _ _ _ _ _ _ _)
      | (with_reducible exact ih1 _ _ _ _ _ _ _ _ _ _ _ _)
      | (with_reducible exact ih2 _ _ _ _ _ _ _ _ _ _ _ _)
      | (with_reducible exact ih3 _ _ _ _ _ _ _ _ _)
      | (with_reducible exact pdu_answer.mono _ _ _ _ _ _ _ _ _ _)
      | (with_reducible exact pdu_packed.mono _ _)
      | (with_reducible exact LeO.refl _)
      | (with_reducible exact LeO.none _)
      | (with_reducible refine LeO.ite ?_ ?_)
      | (with_reducible refine LeO.bind ?_ (fun _ => ?_))
      | exact ih0 _ _ _ _ _ _ _ _ _ _
      | exact ih1 _ _ _ _ _ _ _ _ _ _ _ _
      | exact ih2 _ _ _ _ _ _ _ _ _ _ _ _
      | exact ih3 _ _ _ _ _ _ _ _ _
      | exact pdu_answer.mono _ _ _ _ _ _ _ _ _ _
      | exact pdu_packed.mono _ _
      | exact LeO.none _
      | refine LeO.ite ?_ ?_
      | refine LeO.bind ?_ (fun _ => ?_)
set_option maxHeartbeats 8000000 in
set_option maxRecDepth 100000 in
theorem pdu_AnswerBytes.calls (k : Nat) (a0_0 : Int) (a0_1 : Int) (a0_2 : Int) (A0_3 : Option Addr) (c0_3 : Nat) (l0_3 : List Int) (a0_4 : Int) (a0_5 : Int) (a0_6 : Int) (A1_0 : Option Addr) (c1_0 : Nat) (l1_0 : List Int) (a1_1 : Int) (r1 : List Int) (r2 : Int) (w : World) (hr0_3 : Kd.C (Kd.int .i64) w A0_3 l0_3.length l0_3) (hc0_3 : l0_3.length ≤ c0_3) (hr1_0 : Kd.C (Kd.int .i64) w A1_0 l1_0.length l1_0) (hc1_0 : l1_0.length ≤ c1_0) (h : pdu_AnswerBytes.f k a0_0 a0_1 a0_2 l0_3 a0_4 a0_5 a0_6 l1_0 a1_1 = some (r1, r2)) :
    Calls Try.prog 50 #[.agg #[.int .i64 a0_0, .int .i64 a0_1, .int .i64 a0_2, .slice A0_3 l0_3.length c0_3, .int .i64 a0_4, .int .i64 a0_5, .int .i64 a0_6], .agg #[.slice A1_0 l1_0.length c1_0, .int .i64 a1_1]] w fun e w' => ∃ v0_ : Value, e = .returned (.tuple #[v0_, .int .i64 r2]) ∧ Kd.R (Kd.int .u8) 5 w' w.heap.size (fun _ => True) v0_ r1 ∧ Below w.heap.size w w' := by
  have hu31 := Try.underlying31
  have hu46 := Try.underlying46
  have HR0_3 := Aside0.mk hr0_3
  have HC0_3 := Aside0.mk hc0_3
  clear hr0_3 hc0_3
  have HR1_0 := Aside0.mk hr1_0
  have HC1_0 := Aside0.mk hc1_0
  clear hr1_0 hc1_0
  have HB := Aside0.mk (Below.refl w.heap.size w)
  have H : ((pdu_Check.f a0_0 a0_1 a0_2 l0_3 a0_4 a0_5 a0_6).bind fun t143 => (if t143 = 0 then ((pdu_answer.f k a0_0 a0_1 a0_2 l0_3 a0_4 a0_5 a0_6 l1_0 a1_1).bind fun t144 => (pdu_AnswerBytes.j0 k (!t144) a0_0 a0_1 a0_2 l0_3 a0_4 a0_5 a0_6 l1_0 a1_1)) else (pdu_AnswerBytes.j0 k true a0_0 a0_1 a0_2 l0_3 a0_4 a0_5 a0_6 l1_0 a1_1))) = some (r1, r2) := h
  clear h
  have HC3 := Aside0.mk H
  clear H
  go_enter Try.func50, Try.ntmps50
  go_upto_region 1 with (first | ((with_reducible refine gate_dst (N := 2) rfl ?_); refine box_event ?hg (N := 2) ?hd (cs := #[.int .i64 a0_0, .int .i64 a0_1, .int .i64 a0_2, .slice A0_3 l0_3.length c0_3, .int .i64 a0_4, .int .i64 a0_5, .int .i64 a0_6]) (t := 31) ?hr ?_; (case hd => rfl); (case hg => rfl); (case hr => first | (go_simp; done) | (go_simp; rfl)); intro gb141 hg w4 hbox hb; have n0_ := Aside0.mk (below_step (by repeat (first | (with_reducible first | exact HB.out | apply below_alloc | apply pw_below_drewN | apply below_drew1) | exact HB.out)) hb); have n1_ := Aside0.mk (hbox); have n2_ := Aside0.mk ((by rw [hg]; exact (below_size (by repeat (first | (with_reducible first | exact HB.out | apply below_alloc | apply pw_below_drewN | apply below_drew1) | exact HB.out))) : w.heap.size ≤ gb141)); have n3_ := Aside0.mk ((by rw [hg]; exact (below_size (by repeat (first | (with_reducible first | exact HB.out | apply below_alloc | apply pw_below_drewN | apply below_drew1) | exact HB.out))) : w.heap.size ≤ gb141)); clear HB; have HB := n0_; have BK141 := n1_; have GW141 := n2_; have GE141 := n3_; clear n0_ n1_ n2_ n3_; clear hb hbox hg) | ((with_reducible refine gate_dst (N := 3) rfl ?_); refine box_event ?hg (N := 3) ?hd (cs := #[.slice A1_0 l1_0.length c1_0, .int .i64 a1_1]) (t := 46) ?hr ?_; (case hd => rfl); (case hg => rfl); (case hr => first | (go_simp; done) | (go_simp; rfl)); intro gb142 hg w5 hbox hb; have n0_ := Aside0.mk (blk_below (g := gb141) (o := .cells #[.int .i64 a0_0, .int .i64 a0_1, .int .i64 a0_2, .slice A0_3 l0_3.length c0_3, .int .i64 a0_4, .int .i64 a0_5, .int .i64 a0_6] 31 (0, 0)) (by (with_reducible repeat (first | refine blk_drewN ?_ _ | refine blk_drew ?_ | refine blk_alloc ?_ _)); exact BK141.out) hb); have n1_ := Aside0.mk (below_step (by repeat (first | (with_reducible first | exact HB.out | apply below_alloc | apply pw_below_drewN | apply below_drew1 | refine below_set ?_ GE141.out) | exact HB.out)) hb); have n2_ := Aside0.mk (hbox); have n3_ := Aside0.mk ((by rw [hg]; exact (below_size (by repeat (first | (with_reducible first | exact HB.out | apply below_alloc | apply pw_below_drewN | apply below_drew1 | refine below_set ?_ GE141.out) | exact HB.out))) : w.heap.size ≤ gb142)); have n4_ := Aside0.mk ((by rw [hg]; exact (below_size (by repeat (first | (with_reducible first | exact HB.out | apply below_alloc | apply pw_below_drewN | apply below_drew1 | refine below_set ?_ GE141.out) | exact HB.out))) : w.heap.size ≤ gb142)); have n5_ := Aside0.mk ((by rw [hg]; exact Nat.ne_of_lt (blk_lt (g := gb141) (o := .cells #[.int .i64 a0_0, .int .i64 a0_1, .int .i64 a0_2, .slice A0_3 l0_3.length c0_3, .int .i64 a0_4, .int .i64 a0_5, .int .i64 a0_6] 31 (0, 0)) (by (with_reducible repeat (first | refine blk_drewN ?_ _ | refine blk_drew ?_ | refine blk_alloc ?_ _)); exact BK141.out)) : gb141 ≠ gb142)); have n6_ := Aside0.mk ((by rw [hg]; exact Nat.ne_of_gt (blk_lt (g := gb141) (o := .cells #[.int .i64 a0_0, .int .i64 a0_1, .int .i64 a0_2, .slice A0_3 l0_3.length c0_3, .int .i64 a0_4, .int .i64 a0_5, .int .i64 a0_6] 31 (0, 0)) (by (with_reducible repeat (first | refine blk_drewN ?_ _ | refine blk_drew ?_ | refine blk_alloc ?_ _)); exact BK141.out)) : gb142 ≠ gb141)); clear BK141; clear HB; have BK141 := n0_; have HB := n1_; have BK142 := n2_; have GW142 := n3_; have GE142 := n4_; have NB141_142 := n5_; have NB142_141 := n6_; clear n0_ n1_ n2_ n3_ n4_ n5_ n6_; clear hb hbox hg))
  (try simp only [Act.put, List.setIfInBounds_toArray, List.set_cons_zero, List.set_cons_succ])
  go_cut [15] (fun v15 wc => ∃ (kq : Nat) (x15_2 : Bool), v15 = .bool x15_2 ∧ Aside0 (pdu_AnswerBytes.j0 kq x15_2 a0_0 a0_1 a0_2 l0_3 a0_4 a0_5 a0_6 l1_0 a1_1 = some (r1, r2)) ∧ Aside0 (kq ≤ k) ∧ Aside0 (wc.heap[gb141]? = some (.cells #[.int .i64 a0_0, .int .i64 a0_1, .int .i64 a0_2, (.slice A0_3 l0_3.length c0_3), .int .i64 a0_4, .int .i64 a0_5, .int .i64 a0_6] 31 (0, 0))) ∧ Aside0 (wc.heap[gb142]? = some (.cells #[(.slice A1_0 l1_0.length c1_0), .int .i64 a1_1] 46 (0, 0))) ∧ Aside0 (Below w.heap.size w wc))
  case first =>
    have H := HC3.out
    clear HC3
    replace H := Option.bind_eq_some_iff.mp H
    obtain ⟨t143, A60, H⟩ := H
    replace H : (if t143 = 0 then ((pdu_answer.f k a0_0 a0_1 a0_2 l0_3 a0_4 a0_5 a0_6 l1_0 a1_1).bind fun t144 => (pdu_AnswerBytes.j0 k (!t144) a0_0 a0_1 a0_2 l0_3 a0_4 a0_5 a0_6 l1_0 a1_1)) else (pdu_AnswerBytes.j0 k true a0_0 a0_1 a0_2 l0_3 a0_4 a0_5 a0_6 l1_0 a1_1)) = some (r1, r2) := H
    have A6 := Aside0.mk A60
    clear A60
    by_cases c7 : t143 = 0
    · rw [if_pos c7] at H
      have c7b0 : (t143 == 0) = true := beq_iff_eq.mpr c7
      have c7b1 : (t143 != 0) = false := bne_eq_false_iff_eq.mpr c7
      clear c7
      (first | rw [c7b0] | (simp only [i64_w, i32_w]; rw [c7b0]) | skip)
      replace H := Option.bind_eq_some_iff.mp H
      obtain ⟨t144, A80, H⟩ := H
      replace H : (pdu_AnswerBytes.j0 k (!t144) a0_0 a0_1 a0_2 l0_3 a0_4 a0_5 a0_6 l1_0 a1_1) = some (r1, r2) := H
      have A8 := Aside0.mk A80
      clear A80
      have H' := Aside0.mk H
      clear H
      have hnb9 := NB141_142.out
      have hnc9 := NB142_141.out
      have hcz10_0 : w5.cell? ⟨gb141, 0, none⟩ = some (.int .i64 a0_0) := (blk_cell BK141.out 0).trans rfl
      have hcz10_1 : w5.cell? ⟨gb141, 1, none⟩ = some (.int .i64 a0_1) := (blk_cell BK141.out 1).trans rfl
      have hcz10_2 : w5.cell? ⟨gb141, 2, none⟩ = some (.int .i64 a0_2) := (blk_cell BK141.out 2).trans rfl
      have hcz10_3 : w5.cell? ⟨gb141, 3, none⟩ = some (.slice A0_3 l0_3.length c0_3) := (blk_cell BK141.out 3).trans rfl
      have hcz10_4 : w5.cell? ⟨gb141, 4, none⟩ = some (.int .i64 a0_4) := (blk_cell BK141.out 4).trans rfl
      have hcz10_5 : w5.cell? ⟨gb141, 5, none⟩ = some (.int .i64 a0_5) := (blk_cell BK141.out 5).trans rfl
      have hcz10_6 : w5.cell? ⟨gb141, 6, none⟩ = some (.int .i64 a0_6) := (blk_cell BK141.out 6).trans rfl
      have hfz10_0 := blk_frozen BK141.out 0
      have hfz10_1 := blk_frozen BK141.out 1
      have hfz10_2 := blk_frozen BK141.out 2
      have hfz10_3 := blk_frozen BK141.out 3
      have hfz10_4 := blk_frozen BK141.out 4
      have hfz10_5 := blk_frozen BK141.out 5
      have hfz10_6 := blk_frozen BK141.out 6
      go_wp2_with (first | ((with_reducible refine gate_callee (f := 29) rfl ?_); refine goesL_ (some 8) rfl rfl Try.func29 (by kernel_rfl) rfl #[.agg #[.int .i64 a0_0, .int .i64 a0_1, .int .i64 a0_2, .slice A0_3 l0_3.length c0_3, .int .i64 a0_4, .int .i64 a0_5, .int .i64 a0_6]] rfl (by (try simp only [List.map_toArray, List.map_cons, List.map_nil]); first | done | rfl | (simp only [List.length_drop, List.length_take]; rfl)) ?_; (with_reducible refine (pdu_Check.calls a0_0 a0_1 a0_2 _ _ l0_3 a0_4 a0_5 a0_6 t143 _ ?side1 ?side2 A6.out).mono ?_); (case side1 => repeat (first | exact (Kd.C_below HR0_3.out HB.out) | (with_reducible refine Kd.C_alloc ?_ _) | (with_reducible refine Kd.C_drewN ?_ _) | (with_reducible refine Kd.C_drew ?_))); (case side2 => exact HC0_3.out); rintro e w11 ⟨rfl, hb⟩; refine ⟨_, rfl, ?_⟩; have n0_ := Aside0.mk (blk_below (g := gb141) (o := .cells #[.int .i64 a0_0, .int .i64 a0_1, .int .i64 a0_2, .slice A0_3 l0_3.length c0_3, .int .i64 a0_4, .int .i64 a0_5, .int .i64 a0_6] 31 (0, 0)) (by (with_reducible repeat (first | refine blk_drewN ?_ _ | refine blk_drew ?_ | refine blk_alloc ?_ _)); exact BK141.out) hb); have n1_ := Aside0.mk (blk_below (g := gb142) (o := .cells #[.slice A1_0 l1_0.length c1_0, .int .i64 a1_1] 46 (0, 0)) (by (with_reducible repeat (first | refine blk_drewN ?_ _ | refine blk_drew ?_ | refine blk_alloc ?_ _)); exact BK142.out) hb); have n2_ := Aside0.mk (below_step (by repeat (first | (with_reducible first | exact HB.out | apply below_alloc | apply pw_below_drewN | apply below_drew1 | refine below_set ?_ GE141.out | refine below_set ?_ GE142.out) | exact HB.out)) hb); clear BK141; clear BK142; clear HB; have BK141 := n0_; have BK142 := n1_; have HB := n2_; clear n0_ n1_ n2_; (try clear hb); (try clear hb2); (try clear hk); (try clear hi); have hcz12_0 : w11.cell? ⟨gb141, 0, none⟩ = some (.int .i64 a0_0) := (blk_cell BK141.out 0).trans rfl; have hcz12_1 : w11.cell? ⟨gb141, 1, none⟩ = some (.int .i64 a0_1) := (blk_cell BK141.out 1).trans rfl; have hcz12_2 : w11.cell? ⟨gb141, 2, none⟩ = some (.int .i64 a0_2) := (blk_cell BK141.out 2).trans rfl; have hcz12_3 : w11.cell? ⟨gb141, 3, none⟩ = some (.slice A0_3 l0_3.length c0_3) := (blk_cell BK141.out 3).trans rfl; have hcz12_4 : w11.cell? ⟨gb141, 4, none⟩ = some (.int .i64 a0_4) := (blk_cell BK141.out 4).trans rfl; have hcz12_5 : w11.cell? ⟨gb141, 5, none⟩ = some (.int .i64 a0_5) := (blk_cell BK141.out 5).trans rfl; have hcz12_6 : w11.cell? ⟨gb141, 6, none⟩ = some (.int .i64 a0_6) := (blk_cell BK141.out 6).trans rfl; have hfz12_0 := blk_frozen BK141.out 0; have hfz12_1 := blk_frozen BK141.out 1; have hfz12_2 := blk_frozen BK141.out 2; have hfz12_3 := blk_frozen BK141.out 3; have hfz12_4 := blk_frozen BK141.out 4; have hfz12_5 := blk_frozen BK141.out 5; have hfz12_6 := blk_frozen BK141.out 6; have hcz13_0 : w11.cell? ⟨gb142, 0, none⟩ = some (.slice A1_0 l1_0.length c1_0) := (blk_cell BK142.out 0).trans rfl; have hcz13_1 : w11.cell? ⟨gb142, 1, none⟩ = some (.int .i64 a1_1) := (blk_cell BK142.out 1).trans rfl; have hfz13_0 := blk_frozen BK142.out 0; have hfz13_1 := blk_frozen BK142.out 1) | (go_at_call 60; (with_reducible refine (pdu_answer.calls k a0_0 a0_1 a0_2 _ _ l0_3 a0_4 a0_5 a0_6 _ _ l1_0 a1_1 t144 _ ?side1 ?side2 ?side3 ?side4 A8.out).mono ?_); (case side1 => repeat (first | exact (Kd.C_below HR0_3.out HB.out) | (with_reducible refine Kd.C_alloc ?_ _) | (with_reducible refine Kd.C_drewN ?_ _) | (with_reducible refine Kd.C_drew ?_))); (case side2 => exact HC0_3.out); (case side3 => repeat (first | exact (Kd.C_below HR1_0.out HB.out) | (with_reducible refine Kd.C_alloc ?_ _) | (with_reducible refine Kd.C_drewN ?_ _) | (with_reducible refine Kd.C_drew ?_))); (case side4 => exact HC1_0.out); rintro e w14 ⟨rfl, hb⟩; have n0_ := Aside0.mk (blk_below (g := gb141) (o := .cells #[.int .i64 a0_0, .int .i64 a0_1, .int .i64 a0_2, .slice A0_3 l0_3.length c0_3, .int .i64 a0_4, .int .i64 a0_5, .int .i64 a0_6] 31 (0, 0)) (by (with_reducible repeat (first | refine blk_drewN ?_ _ | refine blk_drew ?_ | refine blk_alloc ?_ _)); exact BK141.out) hb); have n1_ := Aside0.mk (blk_below (g := gb142) (o := .cells #[.slice A1_0 l1_0.length c1_0, .int .i64 a1_1] 46 (0, 0)) (by (with_reducible repeat (first | refine blk_drewN ?_ _ | refine blk_drew ?_ | refine blk_alloc ?_ _)); exact BK142.out) hb); have n2_ := Aside0.mk (below_step (by repeat (first | (with_reducible first | exact HB.out | apply below_alloc | apply pw_below_drewN | apply below_drew1 | refine below_set ?_ GE141.out | refine below_set ?_ GE142.out) | exact HB.out)) hb); clear BK141; clear BK142; clear HB; have BK141 := n0_; have BK142 := n1_; have HB := n2_; clear n0_ n1_ n2_; (try clear hb); (try clear hb2); (try clear hk); (try clear hi)))
      go_meet
      case rel => exact ⟨_, (!t144), (by first | rfl | (simp; done) | (simp [*]; done)), H', ⟨by first | omega | exact Nat.le_refl _⟩, ⟨by (with_reducible repeat (first | refine blk_drewN ?_ _ | refine blk_drew ?_ | refine blk_alloc ?_ _)); exact BK141.out⟩, ⟨by (with_reducible repeat (first | refine blk_drewN ?_ _ | refine blk_drew ?_ | refine blk_alloc ?_ _)); exact BK142.out⟩, ⟨by repeat (first | (with_reducible first | exact HB.out | apply below_alloc | apply pw_below_drewN | apply below_drew1 | refine below_set ?_ GE141.out | refine below_set ?_ GE142.out) | exact HB.out)⟩⟩
    · rw [if_neg c7] at H
      have c7b0 : (t143 == 0) = false := beq_eq_false_iff_ne.mpr c7
      have c7b1 : (t143 != 0) = true := bne_iff_ne.mpr c7
      (first | rw [c7b0] | (simp only [i64_w, i32_w]; rw [c7b0]) | skip)
      have H' := Aside0.mk H
      clear H
      have hnb15 := NB141_142.out
      have hnc15 := NB142_141.out
      have hcz16_0 : w5.cell? ⟨gb141, 0, none⟩ = some (.int .i64 a0_0) := (blk_cell BK141.out 0).trans rfl
      have hcz16_1 : w5.cell? ⟨gb141, 1, none⟩ = some (.int .i64 a0_1) := (blk_cell BK141.out 1).trans rfl
      have hcz16_2 : w5.cell? ⟨gb141, 2, none⟩ = some (.int .i64 a0_2) := (blk_cell BK141.out 2).trans rfl
      have hcz16_3 : w5.cell? ⟨gb141, 3, none⟩ = some (.slice A0_3 l0_3.length c0_3) := (blk_cell BK141.out 3).trans rfl
      have hcz16_4 : w5.cell? ⟨gb141, 4, none⟩ = some (.int .i64 a0_4) := (blk_cell BK141.out 4).trans rfl
      have hcz16_5 : w5.cell? ⟨gb141, 5, none⟩ = some (.int .i64 a0_5) := (blk_cell BK141.out 5).trans rfl
      have hcz16_6 : w5.cell? ⟨gb141, 6, none⟩ = some (.int .i64 a0_6) := (blk_cell BK141.out 6).trans rfl
      have hfz16_0 := blk_frozen BK141.out 0
      have hfz16_1 := blk_frozen BK141.out 1
      have hfz16_2 := blk_frozen BK141.out 2
      have hfz16_3 := blk_frozen BK141.out 3
      have hfz16_4 := blk_frozen BK141.out 4
      have hfz16_5 := blk_frozen BK141.out 5
      have hfz16_6 := blk_frozen BK141.out 6
      go_wp2_with (first | ((with_reducible refine gate_callee (f := 29) rfl ?_); refine goesL_ (some 8) rfl rfl Try.func29 (by kernel_rfl) rfl #[.agg #[.int .i64 a0_0, .int .i64 a0_1, .int .i64 a0_2, .slice A0_3 l0_3.length c0_3, .int .i64 a0_4, .int .i64 a0_5, .int .i64 a0_6]] rfl (by (try simp only [List.map_toArray, List.map_cons, List.map_nil]); first | done | rfl | (simp only [List.length_drop, List.length_take]; rfl)) ?_; (with_reducible refine (pdu_Check.calls a0_0 a0_1 a0_2 _ _ l0_3 a0_4 a0_5 a0_6 t143 _ ?side1 ?side2 A6.out).mono ?_); (case side1 => repeat (first | exact (Kd.C_below HR0_3.out HB.out) | (with_reducible refine Kd.C_alloc ?_ _) | (with_reducible refine Kd.C_drewN ?_ _) | (with_reducible refine Kd.C_drew ?_))); (case side2 => exact HC0_3.out); rintro e w17 ⟨rfl, hb⟩; refine ⟨_, rfl, ?_⟩; have n0_ := Aside0.mk (blk_below (g := gb141) (o := .cells #[.int .i64 a0_0, .int .i64 a0_1, .int .i64 a0_2, .slice A0_3 l0_3.length c0_3, .int .i64 a0_4, .int .i64 a0_5, .int .i64 a0_6] 31 (0, 0)) (by (with_reducible repeat (first | refine blk_drewN ?_ _ | refine blk_drew ?_ | refine blk_alloc ?_ _)); exact BK141.out) hb); have n1_ := Aside0.mk (blk_below (g := gb142) (o := .cells #[.slice A1_0 l1_0.length c1_0, .int .i64 a1_1] 46 (0, 0)) (by (with_reducible repeat (first | refine blk_drewN ?_ _ | refine blk_drew ?_ | refine blk_alloc ?_ _)); exact BK142.out) hb); have n2_ := Aside0.mk (below_step (by repeat (first | (with_reducible first | exact HB.out | apply below_alloc | apply pw_below_drewN | apply below_drew1 | refine below_set ?_ GE141.out | refine below_set ?_ GE142.out) | exact HB.out)) hb); clear BK141; clear BK142; clear HB; have BK141 := n0_; have BK142 := n1_; have HB := n2_; clear n0_ n1_ n2_; (try clear hb); (try clear hb2); (try clear hk); (try clear hi)))
      go_meet
      case rel => exact ⟨_, (true), (by first | rfl | (simp; done) | (simp [*]; done)), H', ⟨by first | omega | exact Nat.le_refl _⟩, ⟨by (with_reducible repeat (first | refine blk_drewN ?_ _ | refine blk_drew ?_ | refine blk_alloc ?_ _)); exact BK141.out⟩, ⟨by (with_reducible repeat (first | refine blk_drewN ?_ _ | refine blk_drew ?_ | refine blk_alloc ?_ _)); exact BK142.out⟩, ⟨by repeat (first | (with_reducible first | exact HB.out | apply below_alloc | apply pw_below_drewN | apply below_drew1 | refine below_set ?_ GE141.out | refine below_set ?_ GE142.out) | exact HB.out)⟩⟩
  case rest =>
    clear HC3
    try clear c1
    try clear c2
    try clear p2
    try clear c5
    try clear c7
    try clear c7b0
    try clear c7b1
    try clear c9
    try clear c15
    try clear hcz10_0
    try clear hcz10_1
    try clear hcz10_2
    try clear hcz10_3
    try clear hcz10_4
    try clear hcz10_5
    try clear hcz10_6
    try clear hcz12_0
    try clear hcz12_1
    try clear hcz12_2
    try clear hcz12_3
    try clear hcz12_4
    try clear hcz12_5
    try clear hcz12_6
    try clear hcz13_0
    try clear hcz13_1
    try clear hcz16_0
    try clear hcz16_1
    try clear hcz16_2
    try clear hcz16_3
    try clear hcz16_4
    try clear hcz16_5
    try clear hcz16_6
    try clear hfz10_0
    try clear hfz10_1
    try clear hfz10_2
    try clear hfz10_3
    try clear hfz10_4
    try clear hfz10_5
    try clear hfz10_6
    try clear hfz12_0
    try clear hfz12_1
    try clear hfz12_2
    try clear hfz12_3
    try clear hfz12_4
    try clear hfz12_5
    try clear hfz12_6
    try clear hfz13_0
    try clear hfz13_1
    try clear hfz16_0
    try clear hfz16_1
    try clear hfz16_2
    try clear hfz16_3
    try clear hfz16_4
    try clear hfz16_5
    try clear hfz16_6
    obtain ⟨kq, x15_2, rfl, HA, HJ2, BK141, BK142, HB⟩ := hcut
    cases kq with
    | zero => exact absurd HA.out (by simp [pdu_AnswerBytes.j0])
    | succ kj2 =>
      have H := HA.out
      clear HA
      simp only [pdu_AnswerBytes.j0] at H
      by_cases c18 : x15_2 = true
      · subst c18
        have H1 : (some (([] : List Int), 1)) = some (r1, r2) := by rw [if_pos rfl] at H; exact H
        clear H
        have H := H1
        clear H1
        simp only [Option.some.injEq, Prod.mk.injEq] at H
        obtain ⟨rfl, rfl⟩ := H
        go_wp2
        go_ret2
        exact ⟨_, by first | rfl | (simp [errW_none, errW_some] <;> rfl) | (simp [*, errW_none, errW_some] <;> rfl), by first | exact Kd.R_nil _ _ _ _ _ | exact Kd.N_nil _ _ _ _ _ | exact Kd.V_nil _ _ _ _ _ | exact Kd.Q_nil _ _ _ _ _ | exact Kd.S_nil _ _ _ _ _, by repeat (first | (with_reducible first | exact HB.out | apply below_alloc | apply pw_below_drewN | apply below_drew1 | refine below_set ?_ GE141.out | refine below_set ?_ GE142.out) | exact HB.out)⟩
      · replace c18 := Bool.eq_false_iff.mpr c18
        subst c18
        have H1 : (if a1_1 = 0 then ((some (([(a0_0) % 256] : List Int) : List Int)).bind fun y148 => (if a0_0 = 1 then (pdu_AnswerBytes.j1 kj2 y148 a0_0 (a0_0 == 1) a0_0 a0_1 a0_2 l0_3 a0_4 a0_5 a0_6 l1_0 a1_1) else (pdu_AnswerBytes.j1 kj2 y148 a0_0 (a0_0 == 2) a0_0 a0_1 a0_2 l0_3 a0_4 a0_5 a0_6 l1_0 a1_1))) else (some ((([Go.bits .or .u8 ((a0_0) % 256) 128, (a1_1) % 256] : List Int)), 0))) = some (r1, r2) := by rw [if_neg (show ¬ (false = true) by decide)] at H; exact H
        clear H
        have H := H1
        clear H1
        by_cases c19 : a1_1 = 0
        · rw [if_pos c19] at H
          have c19b0 : (a1_1 == 0) = true := beq_iff_eq.mpr c19
          have c19b1 : (a1_1 != 0) = false := bne_eq_false_iff_eq.mpr c19
          clear c19
          obtain ⟨y148, hy148⟩ : ∃ y_ : List Int, y_ = (([(a0_0) % 256] : List Int)) := ⟨_, rfl⟩
          replace H : (if a0_0 = 1 then (pdu_AnswerBytes.j1 kj2 y148 a0_0 (a0_0 == 1) a0_0 a0_1 a0_2 l0_3 a0_4 a0_5 a0_6 l1_0 a1_1) else (pdu_AnswerBytes.j1 kj2 y148 a0_0 (a0_0 == 2) a0_0 a0_1 a0_2 l0_3 a0_4 a0_5 a0_6 l1_0 a1_1)) = some (r1, r2) := by first | (rw [hy148]; with_reducible exact H) | (have H2_ := (Option.bind_some _ _).symm.trans H; rw [hy148]; with_reducible exact H2_) | (have H2_ := (Option.bind_some _ _).symm.trans H; with_reducible exact H2_) | with_reducible exact H | (rw [hy148]; exact H) | exact H
          have Ny148 := Aside0.mk hy148
          clear hy148
          have HC20 := Aside0.mk H
          clear H
          have hnb21 := NB142_141.out
          have hnc21 := NB141_142.out
          have hcz22_0 : wc.cell? ⟨gb142, 0, none⟩ = some (.slice A1_0 l1_0.length c1_0) := (blk_cell BK142.out 0).trans rfl
          have hcz22_1 : wc.cell? ⟨gb142, 1, none⟩ = some (.int .i64 a1_1) := (blk_cell BK142.out 1).trans rfl
          have hfz22_0 := blk_frozen BK142.out 0
          have hfz22_1 := blk_frozen BK142.out 1
          have hcz23_0 : wc.cell? ⟨gb141, 0, none⟩ = some (.int .i64 a0_0) := (blk_cell BK141.out 0).trans rfl
          have hcz23_1 : wc.cell? ⟨gb141, 1, none⟩ = some (.int .i64 a0_1) := (blk_cell BK141.out 1).trans rfl
          have hcz23_2 : wc.cell? ⟨gb141, 2, none⟩ = some (.int .i64 a0_2) := (blk_cell BK141.out 2).trans rfl
          have hcz23_3 : wc.cell? ⟨gb141, 3, none⟩ = some (.slice A0_3 l0_3.length c0_3) := (blk_cell BK141.out 3).trans rfl
          have hcz23_4 : wc.cell? ⟨gb141, 4, none⟩ = some (.int .i64 a0_4) := (blk_cell BK141.out 4).trans rfl
          have hcz23_5 : wc.cell? ⟨gb141, 5, none⟩ = some (.int .i64 a0_5) := (blk_cell BK141.out 5).trans rfl
          have hcz23_6 : wc.cell? ⟨gb141, 6, none⟩ = some (.int .i64 a0_6) := (blk_cell BK141.out 6).trans rfl
          have hfz23_0 := blk_frozen BK141.out 0
          have hfz23_1 := blk_frozen BK141.out 1
          have hfz23_2 := blk_frozen BK141.out 2
          have hfz23_3 := blk_frozen BK141.out 3
          have hfz23_4 := blk_frozen BK141.out 4
          have hfz23_5 := blk_frozen BK141.out 5
          have hfz23_6 := blk_frozen BK141.out 6
          go_upto_if 33 with (first | ((with_reducible refine gate_dst (N := 30) rfl ?_); refine Kd.R_lit (Kd.int .u8) _ 5 ?hg (N := 30) ?hd (xs := ([(a0_0) % 256] : List Int)) (inner := [.int .u8 ((a0_0) % 256)]) (ok := fun _ => True) (okp := fun _ => True) ?hr ?hp (fun _ hk => hk) trivial (Below.refl _ _) (Nat.le_refl _) (by simp) ?_; (case hd => rfl); (case hg => rfl); (case hr => first | (go_simp; done) | (go_simp; rfl)); (case hp => exact (Reps.one (show Kd.M (Kd.int .u8) _ _ _ ((a0_0) % 256) [.int .u8 ((a0_0) % 256)] from rfl) (Reps.none _ _))); intro v149 w24 ho25 hb hg_ hnew_; clear hg_ hnew_; (first | rw [← Ny148.out] at ho25 | (simp only [Int.reduceToNat] at ho25; rw [← Ny148.out] at ho25)); have n0_ := Aside0.mk (Kd.R_lower ho25 (below_size (by repeat (first | (with_reducible first | exact HB.out | apply below_alloc | apply pw_below_drewN | apply below_drew1 | refine below_set ?_ GE141.out | refine below_set ?_ GE142.out) | exact HB.out)))); have n1_ := Aside0.mk (blk_below (g := gb141) (o := .cells #[.int .i64 a0_0, .int .i64 a0_1, .int .i64 a0_2, .slice A0_3 l0_3.length c0_3, .int .i64 a0_4, .int .i64 a0_5, .int .i64 a0_6] 31 (0, 0)) (by (with_reducible repeat (first | refine blk_drewN ?_ _ | refine blk_drew ?_ | refine blk_alloc ?_ _)); exact BK141.out) hb); have n2_ := Aside0.mk (blk_below (g := gb142) (o := .cells #[.slice A1_0 l1_0.length c1_0, .int .i64 a1_1] 46 (0, 0)) (by (with_reducible repeat (first | refine blk_drewN ?_ _ | refine blk_drew ?_ | refine blk_alloc ?_ _)); exact BK142.out) hb); have n3_ := Aside0.mk (below_step (by repeat (first | (with_reducible first | exact HB.out | apply below_alloc | apply pw_below_drewN | apply below_drew1 | refine below_set ?_ GE141.out | refine below_set ?_ GE142.out) | exact HB.out)) hb); clear BK141; clear BK142; clear HB; have HO150 := n0_; have BK141 := n1_; have BK142 := n2_; have HB := n3_; clear n0_ n1_ n2_ n3_; clear hb ho25; have hcz26_0 : w24.cell? ⟨gb141, 0, none⟩ = some (.int .i64 a0_0) := (blk_cell BK141.out 0).trans rfl; have hcz26_1 : w24.cell? ⟨gb141, 1, none⟩ = some (.int .i64 a0_1) := (blk_cell BK141.out 1).trans rfl; have hcz26_2 : w24.cell? ⟨gb141, 2, none⟩ = some (.int .i64 a0_2) := (blk_cell BK141.out 2).trans rfl; have hcz26_3 : w24.cell? ⟨gb141, 3, none⟩ = some (.slice A0_3 l0_3.length c0_3) := (blk_cell BK141.out 3).trans rfl; have hcz26_4 : w24.cell? ⟨gb141, 4, none⟩ = some (.int .i64 a0_4) := (blk_cell BK141.out 4).trans rfl; have hcz26_5 : w24.cell? ⟨gb141, 5, none⟩ = some (.int .i64 a0_5) := (blk_cell BK141.out 5).trans rfl; have hcz26_6 : w24.cell? ⟨gb141, 6, none⟩ = some (.int .i64 a0_6) := (blk_cell BK141.out 6).trans rfl; have hfz26_0 := blk_frozen BK141.out 0; have hfz26_1 := blk_frozen BK141.out 1; have hfz26_2 := blk_frozen BK141.out 2; have hfz26_3 := blk_frozen BK141.out 3; have hfz26_4 := blk_frozen BK141.out 4; have hfz26_5 := blk_frozen BK141.out 5; have hfz26_6 := blk_frozen BK141.out 6))
          (try simp only [Act.put, List.setIfInBounds_toArray, List.set_cons_zero, List.set_cons_succ])
          go_cut [33] (fun v33 wc => ∃ (kq : Nat) (x33_19 : Bool), v33 = .bool x33_19 ∧ Aside0 (pdu_AnswerBytes.j1 kq y148 a0_0 x33_19 a0_0 a0_1 a0_2 l0_3 a0_4 a0_5 a0_6 l1_0 a1_1 = some (r1, r2)) ∧ Aside0 (kq ≤ kj2) ∧ Aside0 (Kd.R (Kd.int .u8) 5 wc w.heap.size (fun _ => True) v149 y148) ∧ Aside0 (wc.heap[gb141]? = some (.cells #[.int .i64 a0_0, .int .i64 a0_1, .int .i64 a0_2, (.slice A0_3 l0_3.length c0_3), .int .i64 a0_4, .int .i64 a0_5, .int .i64 a0_6] 31 (0, 0))) ∧ Aside0 (wc.heap[gb142]? = some (.cells #[(.slice A1_0 l1_0.length c1_0), .int .i64 a1_1] 46 (0, 0))) ∧ Aside0 (Below w.heap.size w wc))
          case first =>
            have H := HC20.out
            clear HC20
            by_cases c27 : a0_0 = 1
            · rw [if_pos c27] at H
              have c27b0 : (a0_0 == 1) = true := beq_iff_eq.mpr c27
              have c27b1 : (a0_0 != 1) = false := bne_eq_false_iff_eq.mpr c27
              clear c27
              (first | rw [c27b0] | (simp only [i64_w, i32_w]; rw [c27b0]) | skip)
              have H' := Aside0.mk H
              clear H
              go_wp2
              go_meet
              case rel => exact ⟨_, ((a0_0 == 1)), (by first | rfl | (simp; done) | (simp [*]; done)), H', ⟨by have := HJ2.out; first | omega | exact Nat.le_refl _⟩, ⟨by (with_reducible repeat (first | apply Kd.R_alloc | apply Kd.R_drewN | apply Kd.R_drew)); exact HO150.out⟩, ⟨by (with_reducible repeat (first | refine blk_drewN ?_ _ | refine blk_drew ?_ | refine blk_alloc ?_ _)); exact BK141.out⟩, ⟨by (with_reducible repeat (first | refine blk_drewN ?_ _ | refine blk_drew ?_ | refine blk_alloc ?_ _)); exact BK142.out⟩, ⟨by repeat (first | (with_reducible first | exact HB.out | apply below_alloc | apply pw_below_drewN | apply below_drew1 | refine below_set ?_ GE141.out | refine below_set ?_ GE142.out) | exact HB.out)⟩⟩
            · rw [if_neg c27] at H
              have c27b0 : (a0_0 == 1) = false := beq_eq_false_iff_ne.mpr c27
              have c27b1 : (a0_0 != 1) = true := bne_iff_ne.mpr c27
              (first | rw [c27b0] | (simp only [i64_w, i32_w]; rw [c27b0]) | skip)
              have H' := Aside0.mk H
              clear H
              go_wp2
              go_meet
              case rel => exact ⟨_, ((a0_0 == 2)), (by first | rfl | (simp; done) | (simp [*]; done)), H', ⟨by have := HJ2.out; first | omega | exact Nat.le_refl _⟩, ⟨by (with_reducible repeat (first | apply Kd.R_alloc | apply Kd.R_drewN | apply Kd.R_drew)); exact HO150.out⟩, ⟨by (with_reducible repeat (first | refine blk_drewN ?_ _ | refine blk_drew ?_ | refine blk_alloc ?_ _)); exact BK141.out⟩, ⟨by (with_reducible repeat (first | refine blk_drewN ?_ _ | refine blk_drew ?_ | refine blk_alloc ?_ _)); exact BK142.out⟩, ⟨by repeat (first | (with_reducible first | exact HB.out | apply below_alloc | apply pw_below_drewN | apply below_drew1 | refine below_set ?_ GE141.out | refine below_set ?_ GE142.out) | exact HB.out)⟩⟩
          case rest =>
            clear HC20
            try clear c1
            try clear c2
            try clear p2
            try clear c5
            try clear c7
            try clear c7b0
            try clear c7b1
            try clear c9
            try clear c15
            try clear c18
            try clear c19
            try clear c19b0
            try clear c19b1
            try clear c21
            try clear c27
            try clear c27b0
            try clear c27b1
            try clear hcz10_0
            try clear hcz10_1
            try clear hcz10_2
            try clear hcz10_3
            try clear hcz10_4
            try clear hcz10_5
            try clear hcz10_6
            try clear hcz12_0
            try clear hcz12_1
            try clear hcz12_2
            try clear hcz12_3
            try clear hcz12_4
            try clear hcz12_5
            try clear hcz12_6
            try clear hcz13_0
            try clear hcz13_1
            try clear hcz16_0
            try clear hcz16_1
            try clear hcz16_2
            try clear hcz16_3
            try clear hcz16_4
            try clear hcz16_5
            try clear hcz16_6
            try clear hcz22_0
            try clear hcz22_1
            try clear hcz23_0
            try clear hcz23_1
            try clear hcz23_2
            try clear hcz23_3
            try clear hcz23_4
            try clear hcz23_5
            try clear hcz23_6
            try clear hcz26_0
            try clear hcz26_1
            try clear hcz26_2
            try clear hcz26_3
            try clear hcz26_4
            try clear hcz26_5
            try clear hcz26_6
            try clear hfz10_0
            try clear hfz10_1
            try clear hfz10_2
            try clear hfz10_3
            try clear hfz10_4
            try clear hfz10_5
            try clear hfz10_6
            try clear hfz12_0
            try clear hfz12_1
            try clear hfz12_2
            try clear hfz12_3
            try clear hfz12_4
            try clear hfz12_5
            try clear hfz12_6
            try clear hfz13_0
            try clear hfz13_1
            try clear hfz16_0
            try clear hfz16_1
            try clear hfz16_2
            try clear hfz16_3
            try clear hfz16_4
            try clear hfz16_5
            try clear hfz16_6
            try clear hfz22_0
            try clear hfz22_1
            try clear hfz23_0
            try clear hfz23_1
            try clear hfz23_2
            try clear hfz23_3
            try clear hfz23_4
            try clear hfz23_5
            try clear hfz23_6
            try clear hfz26_0
            try clear hfz26_1
            try clear hfz26_2
            try clear hfz26_3
            try clear hfz26_4
            try clear hfz26_5
            try clear hfz26_6
            try clear p2
            obtain ⟨kq, x33_19, rfl, HA, HJ19, HO_6, BK141, BK142, HB⟩ := hcut
            cases kq with
            | zero => exact absurd HA.out (by simp [pdu_AnswerBytes.j1])
            | succ kj19 =>
              have H := HA.out
              clear HA
              simp only [pdu_AnswerBytes.j1] at H
              by_cases c28 : x33_19 = true
              · subst c28
                have H1 : ((pdu_packed.f kj19 l1_0).bind fun t151 => ((pdu_counted.f y148 t151).bind fun t154 => (some (t154, 0)))) = some (r1, r2) := by rw [if_pos rfl] at H; exact H
                clear H
                have H := H1
                clear H1
                replace H := Option.bind_eq_some_iff.mp H
                obtain ⟨t151, A290, H⟩ := H
                replace H : ((pdu_counted.f y148 t151).bind fun t154 => (some (t154, 0))) = some (r1, r2) := H
                have A29 := Aside0.mk A290
                clear A290
                replace H := Option.bind_eq_some_iff.mp H
                obtain ⟨t154, A300, H⟩ := H
                replace H : (some (t154, 0)) = some (r1, r2) := H
                have A30 := Aside0.mk A300
                clear A300
                simp only [Option.some.injEq, Prod.mk.injEq] at H
                obtain ⟨rfl, rfl⟩ := H
                have hnb31 := NB142_141.out
                have hnc31 := NB141_142.out
                have hcz32_0 : wc.cell? ⟨gb142, 0, none⟩ = some (.slice A1_0 l1_0.length c1_0) := (blk_cell BK142.out 0).trans rfl
                have hcz32_1 : wc.cell? ⟨gb142, 1, none⟩ = some (.int .i64 a1_1) := (blk_cell BK142.out 1).trans rfl
                have hfz32_0 := blk_frozen BK142.out 0
                have hfz32_1 := blk_frozen BK142.out 1
                go_wp2_with (first | ((with_reducible refine gate_callee (f := 62) rfl ?_); refine goesL_ (some 39) rfl rfl Try.func62 (by kernel_rfl) rfl #[.slice A1_0 l1_0.length c1_0] rfl (by (try simp only [List.map_toArray, List.map_cons, List.map_nil]); first | done | rfl | (simp only [List.length_drop, List.length_take]; rfl)) ?_; (with_reducible refine (pdu_packed.calls kj19 _ _ l1_0 t151 _ ?side1 ?side2 A29.out).mono ?_); (case side1 => repeat (first | exact (Kd.C_below HR1_0.out HB.out) | (with_reducible refine Kd.C_alloc ?_ _) | (with_reducible refine Kd.C_drewN ?_ _) | (with_reducible refine Kd.C_drew ?_))); (case side2 => exact HC1_0.out); rintro e w33 ⟨v152, rfl, ho0, hb⟩; refine ⟨_, rfl, ?_⟩; have n0_ := Aside0.mk (Kd.R_elder' (by (with_reducible repeat (first | apply Kd.R_alloc | apply Kd.R_drewN | apply Kd.R_drew)); exact HO_6.out) (Kd.R_base ho0) hb); have n1_ := Aside0.mk (Kd.R_lower (Kd.R_new' ho0 (Kd.R_lt (by (with_reducible repeat (first | apply Kd.R_alloc | apply Kd.R_drewN | apply Kd.R_drew)); exact HO_6.out))) (below_size (by repeat (first | (with_reducible first | exact HB.out | apply below_alloc | apply pw_below_drewN | apply below_drew1 | refine below_set ?_ GE141.out | refine below_set ?_ GE142.out) | exact HB.out)))); have n2_ := Aside0.mk (blk_below (g := gb141) (o := .cells #[.int .i64 a0_0, .int .i64 a0_1, .int .i64 a0_2, .slice A0_3 l0_3.length c0_3, .int .i64 a0_4, .int .i64 a0_5, .int .i64 a0_6] 31 (0, 0)) (by (with_reducible repeat (first | refine blk_drewN ?_ _ | refine blk_drew ?_ | refine blk_alloc ?_ _)); exact BK141.out) hb); have n3_ := Aside0.mk (blk_below (g := gb142) (o := .cells #[.slice A1_0 l1_0.length c1_0, .int .i64 a1_1] 46 (0, 0)) (by (with_reducible repeat (first | refine blk_drewN ?_ _ | refine blk_drew ?_ | refine blk_alloc ?_ _)); exact BK142.out) hb); have n4_ := Aside0.mk (below_step (by repeat (first | (with_reducible first | exact HB.out | apply below_alloc | apply pw_below_drewN | apply below_drew1 | refine below_set ?_ GE141.out | refine below_set ?_ GE142.out) | exact HB.out)) hb); clear HO_6; clear BK141; clear BK142; clear HB; have HO_6 := n0_; have HO153 := n1_; have BK141 := n2_; have BK142 := n3_; have HB := n4_; clear n0_ n1_ n2_ n3_ n4_; (try clear hb); (try clear hb2); (try clear hk); (try clear hi); (try clear ho0); obtain ⟨Ao34, co34, eo34⟩ := Kd.R_slice HO_6.out; subst eo34; obtain ⟨Ao35, co35, eo35⟩ := Kd.R_slice HO153.out; subst eo35) | ((with_reducible refine gate_callee (f := 61) rfl ?_); refine goesL_ (some 40) rfl rfl Try.func61 (by kernel_rfl) rfl #[.slice Ao34 y148.length co34, .slice Ao35 t151.length co35] rfl (by (try simp only [List.map_toArray, List.map_cons, List.map_nil]); first | done | rfl | (simp only [List.length_drop, List.length_take]; rfl)) ?_; (with_reducible refine (pdu_counted.calls (fun k_ => some k_ = (.slice Ao34 y148.length co34 : Value).ownBlock) (.slice Ao34 y148.length co34) y148 _ _ t151 t154 w _ ?side1 ?side2 ?side3 ?side4 A30.out).mono ?_); (case side1 => repeat (first | (with_reducible first | exact HB.out | apply below_alloc | apply pw_below_drewN | apply below_drew1 | refine below_set ?_ GE141.out | refine below_set ?_ GE142.out) | exact HB.out)); (case side2 => exact Kd.R_tight rfl HO_6.out); (case side3 => exact Kd.C_kept_own (HO153.out) (fun k_ hk_ hs_ => (hk_.2) hs_)); (case side4 => exact (Kd.R_reads' HO153.out).2.1); rintro e w36 ⟨v155, rfl, ho0, hb, hkp⟩; refine ⟨_, rfl, ?_⟩; have n0_ := Aside0.mk (blk_kept (by (with_reducible repeat (first | refine blk_drewN ?_ _ | refine blk_drew ?_ | refine blk_alloc ?_ _)); exact BK141.out) hkp (fun hs_ => (fun e_ => (Kd.R_ne HO_6.out BK141.out (by decide)) e_) hs_)); have n1_ := Aside0.mk (blk_kept (by (with_reducible repeat (first | refine blk_drewN ?_ _ | refine blk_drew ?_ | refine blk_alloc ?_ _)); exact BK142.out) hkp (fun hs_ => (fun e_ => (Kd.R_ne HO_6.out BK142.out (by decide)) e_) hs_)); have n2_ := Aside0.mk (Kd.R_mono (ok' := fun k_ => some k_ ≠ (v155 : Value).ownBlock) (Kd.R_keptB (HO153.out) hkp (fun k_ hk_ hs_ => (hk_.2) hs_)) (fun k_ hk_ => fun e_ => Or.elim (ho0.1 k_ e_.symm) (fun hs_ => hk_.2.1 hs_) (fun hn_ => Nat.not_le.2 hk_.2.2 hn_))); have n3_ := Aside0.mk (Kd.R_mono (ok' := fun k_ => some k_ ≠ (.slice Ao35 t151.length co35 : Value).ownBlock) ho0 (fun k_ hk_ => Or.elim hk_ (fun hs_ => fun e_ => (((HO153.out).1 k_ e_.symm).2) hs_) (fun hn_ => (Kd.fresh' (Kd.R_lt (by (with_reducible repeat (first | apply Kd.R_alloc | apply Kd.R_drewN | apply Kd.R_drew)); exact HO153.out)) k_ hn_)))); have n4_ := Aside0.mk (hb); clear BK141; clear BK142; clear HO153; clear HB; clear HO_6; have BK141 := n0_; have BK142 := n1_; have HO153 := n2_; have HO156 := n3_; have HB := n4_; clear n0_ n1_ n2_ n3_ n4_; (try clear hb); (try clear hkp); (try clear ho0)))
                go_ret2
                exact ⟨_, by first | rfl | (simp [errW_none, errW_some] <;> rfl) | (simp [*, errW_none, errW_some] <;> rfl), by (with_reducible repeat (first | apply Kd.R_alloc | apply Kd.R_drewN | apply Kd.R_drew)); exact Kd.R_mono HO156.out (fun _ hk => trivial), by repeat (first | (with_reducible first | exact HB.out | apply below_alloc | apply pw_below_drewN | apply below_drew1 | refine below_set ?_ GE141.out | refine below_set ?_ GE142.out) | exact HB.out)⟩
              · replace c28 := Bool.eq_false_iff.mpr c28
                subst c28
                have H1 : (if a0_0 = 3 then (pdu_AnswerBytes.j2 kj19 y148 a0_0 (a0_0 == 3) a0_0 a0_1 a0_2 l0_3 a0_4 a0_5 a0_6 l1_0 a1_1) else (if a0_0 = 4 then (pdu_AnswerBytes.j2 kj19 y148 a0_0 (a0_0 == 4) a0_0 a0_1 a0_2 l0_3 a0_4 a0_5 a0_6 l1_0 a1_1) else (pdu_AnswerBytes.j2 kj19 y148 a0_0 (a0_0 == 23) a0_0 a0_1 a0_2 l0_3 a0_4 a0_5 a0_6 l1_0 a1_1))) = some (r1, r2) := by rw [if_neg (show ¬ (false = true) by decide)] at H; exact H
                clear H
                have H := H1
                clear H1
                have HC37 := Aside0.mk H
                clear H
                go_upto_if 41 with (fail)
                go_cut [41] (fun v41 wc => ∃ (kq : Nat) (x41_36 : Bool), v41 = .bool x41_36 ∧ Aside0 (pdu_AnswerBytes.j2 kq y148 a0_0 x41_36 a0_0 a0_1 a0_2 l0_3 a0_4 a0_5 a0_6 l1_0 a1_1 = some (r1, r2)) ∧ Aside0 (kq ≤ kj19) ∧ Aside0 (Kd.R (Kd.int .u8) 5 wc w.heap.size (fun _ => True) v149 y148) ∧ Aside0 (wc.heap[gb141]? = some (.cells #[.int .i64 a0_0, .int .i64 a0_1, .int .i64 a0_2, (.slice A0_3 l0_3.length c0_3), .int .i64 a0_4, .int .i64 a0_5, .int .i64 a0_6] 31 (0, 0))) ∧ Aside0 (wc.heap[gb142]? = some (.cells #[(.slice A1_0 l1_0.length c1_0), .int .i64 a1_1] 46 (0, 0))) ∧ Aside0 (Below w.heap.size w wc))
                case first =>
                  have H := HC37.out
                  clear HC37
                  by_cases c38 : a0_0 = 3
                  · rw [if_pos c38] at H
                    have c38b0 : (a0_0 == 3) = true := beq_iff_eq.mpr c38
                    have c38b1 : (a0_0 != 3) = false := bne_eq_false_iff_eq.mpr c38
                    clear c38
                    (first | rw [c38b0] | (simp only [i64_w, i32_w]; rw [c38b0]) | skip)
                    have H' := Aside0.mk H
                    clear H
                    go_wp2
                    go_meet
                    case rel => exact ⟨_, ((a0_0 == 3)), (by first | rfl | (simp; done) | (simp [*]; done)), H', ⟨by have := HJ2.out; have := HJ19.out; first | omega | exact Nat.le_refl _⟩, ⟨by (with_reducible repeat (first | apply Kd.R_alloc | apply Kd.R_drewN | apply Kd.R_drew)); exact HO_6.out⟩, ⟨by (with_reducible repeat (first | refine blk_drewN ?_ _ | refine blk_drew ?_ | refine blk_alloc ?_ _)); exact BK141.out⟩, ⟨by (with_reducible repeat (first | refine blk_drewN ?_ _ | refine blk_drew ?_ | refine blk_alloc ?_ _)); exact BK142.out⟩, ⟨by repeat (first | (with_reducible first | exact HB.out | apply below_alloc | apply pw_below_drewN | apply below_drew1 | refine below_set ?_ GE141.out | refine below_set ?_ GE142.out) | exact HB.out)⟩⟩
                  · rw [if_neg c38] at H
                    have c38b0 : (a0_0 == 3) = false := beq_eq_false_iff_ne.mpr c38
                    have c38b1 : (a0_0 != 3) = true := bne_iff_ne.mpr c38
                    (first | rw [c38b0] | (simp only [i64_w, i32_w]; rw [c38b0]) | skip)
                    by_cases c39 : a0_0 = 4
                    · rw [if_pos c39] at H
                      have c39b0 : (a0_0 == 4) = true := beq_iff_eq.mpr c39
                      have c39b1 : (a0_0 != 4) = false := bne_eq_false_iff_eq.mpr c39
                      clear c39
                      have H' := Aside0.mk H
                      clear H
                      go_wp2
                      go_meet
                      case rel => exact ⟨_, ((a0_0 == 4)), (by first | rfl | (simp; done) | (simp [*]; done)), H', ⟨by have := HJ2.out; have := HJ19.out; first | omega | exact Nat.le_refl _⟩, ⟨by (with_reducible repeat (first | apply Kd.R_alloc | apply Kd.R_drewN | apply Kd.R_drew)); exact HO_6.out⟩, ⟨by (with_reducible repeat (first | refine blk_drewN ?_ _ | refine blk_drew ?_ | refine blk_alloc ?_ _)); exact BK141.out⟩, ⟨by (with_reducible repeat (first | refine blk_drewN ?_ _ | refine blk_drew ?_ | refine blk_alloc ?_ _)); exact BK142.out⟩, ⟨by repeat (first | (with_reducible first | exact HB.out | apply below_alloc | apply pw_below_drewN | apply below_drew1 | refine below_set ?_ GE141.out | refine below_set ?_ GE142.out) | exact HB.out)⟩⟩
                    · rw [if_neg c39] at H
                      have c39b0 : (a0_0 == 4) = false := beq_eq_false_iff_ne.mpr c39
                      have c39b1 : (a0_0 != 4) = true := bne_iff_ne.mpr c39
                      have H' := Aside0.mk H
                      clear H
                      go_wp2
                      go_meet
                      case rel => exact ⟨_, ((a0_0 == 23)), (by first | rfl | (simp; done) | (simp [*]; done)), H', ⟨by have := HJ2.out; have := HJ19.out; first | omega | exact Nat.le_refl _⟩, ⟨by (with_reducible repeat (first | apply Kd.R_alloc | apply Kd.R_drewN | apply Kd.R_drew)); exact HO_6.out⟩, ⟨by (with_reducible repeat (first | refine blk_drewN ?_ _ | refine blk_drew ?_ | refine blk_alloc ?_ _)); exact BK141.out⟩, ⟨by (with_reducible repeat (first | refine blk_drewN ?_ _ | refine blk_drew ?_ | refine blk_alloc ?_ _)); exact BK142.out⟩, ⟨by repeat (first | (with_reducible first | exact HB.out | apply below_alloc | apply pw_below_drewN | apply below_drew1 | refine below_set ?_ GE141.out | refine below_set ?_ GE142.out) | exact HB.out)⟩⟩
                case rest =>
                  clear HC37
                  try clear c1
                  try clear c2
                  try clear p2
                  try clear c3
                  try clear c5
                  try clear c6
                  try clear c7
                  try clear c7b0
                  try clear c7b1
                  try clear c9
                  try clear c15
                  try clear c18
                  try clear c19
                  try clear c19b0
                  try clear c19b1
                  try clear c21
                  try clear c27
                  try clear c27b0
                  try clear c27b1
                  try clear c28
                  try clear c29
                  try clear c31
                  try clear c38
                  try clear c38b0
                  try clear c38b1
                  try clear c39
                  try clear c39b0
                  try clear c39b1
                  try clear hcz10_0
                  try clear hcz10_1
                  try clear hcz10_2
                  try clear hcz10_3
                  try clear hcz10_4
                  try clear hcz10_5
                  try clear hcz10_6
                  try clear hcz12_0
                  try clear hcz12_1
                  try clear hcz12_2
                  try clear hcz12_3
                  try clear hcz12_4
                  try clear hcz12_5
                  try clear hcz12_6
                  try clear hcz13_0
                  try clear hcz13_1
                  try clear hcz16_0
                  try clear hcz16_1
                  try clear hcz16_2
                  try clear hcz16_3
                  try clear hcz16_4
                  try clear hcz16_5
                  try clear hcz16_6
                  try clear hcz22_0
                  try clear hcz22_1
                  try clear hcz23_0
                  try clear hcz23_1
                  try clear hcz23_2
                  try clear hcz23_3
                  try clear hcz23_4
                  try clear hcz23_5
                  try clear hcz23_6
                  try clear hcz26_0
                  try clear hcz26_1
                  try clear hcz26_2
                  try clear hcz26_3
                  try clear hcz26_4
                  try clear hcz26_5
                  try clear hcz26_6
                  try clear hcz32_0
                  try clear hcz32_1
                  try clear hfz10_0
                  try clear hfz10_1
                  try clear hfz10_2
                  try clear hfz10_3
                  try clear hfz10_4
                  try clear hfz10_5
                  try clear hfz10_6
                  try clear hfz12_0
                  try clear hfz12_1
                  try clear hfz12_2
                  try clear hfz12_3
                  try clear hfz12_4
                  try clear hfz12_5
                  try clear hfz12_6
                  try clear hfz13_0
                  try clear hfz13_1
                  try clear hfz16_0
                  try clear hfz16_1
                  try clear hfz16_2
                  try clear hfz16_3
                  try clear hfz16_4
                  try clear hfz16_5
                  try clear hfz16_6
                  try clear hfz22_0
                  try clear hfz22_1
                  try clear hfz23_0
                  try clear hfz23_1
                  try clear hfz23_2
                  try clear hfz23_3
                  try clear hfz23_4
                  try clear hfz23_5
                  try clear hfz23_6
                  try clear hfz26_0
                  try clear hfz26_1
                  try clear hfz26_2
                  try clear hfz26_3
                  try clear hfz26_4
                  try clear hfz26_5
                  try clear hfz26_6
                  try clear hfz32_0
                  try clear hfz32_1
                  try clear p2
                  obtain ⟨kq, x41_36, rfl, HA, HJ36, HO_6, BK141, BK142, HB⟩ := hcut
                  cases kq with
                  | zero => exact absurd HA.out (by simp [pdu_AnswerBytes.j2])
                  | succ kj36 =>
                    have H := HA.out
                    clear HA
                    simp only [pdu_AnswerBytes.j2] at H
                    by_cases c40 : x41_36 = true
                    · subst c40
                      have H1 : ((pdu_lay.f ([] : List Int) l1_0).bind fun t157 => ((pdu_counted.f y148 t157).bind fun t160 => (some (t160, 0)))) = some (r1, r2) := by rw [if_pos rfl] at H; exact H
                      clear H
                      have H := H1
                      clear H1
                      replace H := Option.bind_eq_some_iff.mp H
                      obtain ⟨t157, A410, H⟩ := H
                      replace H : ((pdu_counted.f y148 t157).bind fun t160 => (some (t160, 0))) = some (r1, r2) := H
                      have A41 := Aside0.mk A410
                      clear A410
                      replace H := Option.bind_eq_some_iff.mp H
                      obtain ⟨t160, A420, H⟩ := H
                      replace H : (some (t160, 0)) = some (r1, r2) := H
                      have A42 := Aside0.mk A420
                      clear A420
                      simp only [Option.some.injEq, Prod.mk.injEq] at H
                      obtain ⟨rfl, rfl⟩ := H
                      have hnb43 := NB142_141.out
                      have hnc43 := NB141_142.out
                      have hcz44_0 : wc.cell? ⟨gb142, 0, none⟩ = some (.slice A1_0 l1_0.length c1_0) := (blk_cell BK142.out 0).trans rfl
                      have hcz44_1 : wc.cell? ⟨gb142, 1, none⟩ = some (.int .i64 a1_1) := (blk_cell BK142.out 1).trans rfl
                      have hfz44_0 := blk_frozen BK142.out 0
                      have hfz44_1 := blk_frozen BK142.out 1
                      go_wp2_with (first | ((with_reducible refine gate_callee (f := 63) rfl ?_); refine goesL_ (some 48) rfl rfl Try.func63 (by kernel_rfl) rfl #[.slice none 0 0, .slice A1_0 l1_0.length c1_0] rfl (by (try simp only [List.map_toArray, List.map_cons, List.map_nil]); first | done | rfl | (simp only [List.length_drop, List.length_take]; rfl)) ?_; (refine (pdu_lay.calls _ _ ([] : List Int) _ _ l1_0 t157 _ ?side1 ?side2 ?side3 ?side4 A41.out).mono ?_); (case side1 => exact Kd.C_nil _ _); (case side2 => exact Nat.le_refl _); (case side3 => repeat (first | exact (Kd.C_below HR1_0.out HB.out) | (with_reducible refine Kd.C_alloc ?_ _) | (with_reducible refine Kd.C_drewN ?_ _) | (with_reducible refine Kd.C_drew ?_))); (case side4 => exact HC1_0.out); rintro e w45 ⟨v158, rfl, ho0, hb⟩; refine ⟨_, rfl, ?_⟩; have n0_ := Aside0.mk (Kd.R_elder' (by (with_reducible repeat (first | apply Kd.R_alloc | apply Kd.R_drewN | apply Kd.R_drew)); exact HO_6.out) (Kd.R_base ho0) hb); have n1_ := Aside0.mk (Kd.R_lower (Kd.R_new' ho0 (Kd.R_lt (by (with_reducible repeat (first | apply Kd.R_alloc | apply Kd.R_drewN | apply Kd.R_drew)); exact HO_6.out))) (below_size (by repeat (first | (with_reducible first | exact HB.out | apply below_alloc | apply pw_below_drewN | apply below_drew1 | refine below_set ?_ GE141.out | refine below_set ?_ GE142.out) | exact HB.out)))); have n2_ := Aside0.mk (blk_below (g := gb141) (o := .cells #[.int .i64 a0_0, .int .i64 a0_1, .int .i64 a0_2, .slice A0_3 l0_3.length c0_3, .int .i64 a0_4, .int .i64 a0_5, .int .i64 a0_6] 31 (0, 0)) (by (with_reducible repeat (first | refine blk_drewN ?_ _ | refine blk_drew ?_ | refine blk_alloc ?_ _)); exact BK141.out) hb); have n3_ := Aside0.mk (blk_below (g := gb142) (o := .cells #[.slice A1_0 l1_0.length c1_0, .int .i64 a1_1] 46 (0, 0)) (by (with_reducible repeat (first | refine blk_drewN ?_ _ | refine blk_drew ?_ | refine blk_alloc ?_ _)); exact BK142.out) hb); have n4_ := Aside0.mk (below_step (by repeat (first | (with_reducible first | exact HB.out | apply below_alloc | apply pw_below_drewN | apply below_drew1 | refine below_set ?_ GE141.out | refine below_set ?_ GE142.out) | exact HB.out)) hb); clear HO_6; clear BK141; clear BK142; clear HB; have HO_6 := n0_; have HO159 := n1_; have BK141 := n2_; have BK142 := n3_; have HB := n4_; clear n0_ n1_ n2_ n3_ n4_; (try clear hb); (try clear hb2); (try clear hk); (try clear hi); (try clear ho0); obtain ⟨Ao46, co46, eo46⟩ := Kd.R_slice HO_6.out; subst eo46; obtain ⟨Ao47, co47, eo47⟩ := Kd.R_slice HO159.out; subst eo47) | ((with_reducible refine gate_callee (f := 61) rfl ?_); refine goesL_ (some 49) rfl rfl Try.func61 (by kernel_rfl) rfl #[.slice Ao46 y148.length co46, .slice Ao47 t157.length co47] rfl (by (try simp only [List.map_toArray, List.map_cons, List.map_nil]); first | done | rfl | (simp only [List.length_drop, List.length_take]; rfl)) ?_; (with_reducible refine (pdu_counted.calls (fun k_ => some k_ = (.slice Ao46 y148.length co46 : Value).ownBlock) (.slice Ao46 y148.length co46) y148 _ _ t157 t160 w _ ?side1 ?side2 ?side3 ?side4 A42.out).mono ?_); (case side1 => repeat (first | (with_reducible first | exact HB.out | apply below_alloc | apply pw_below_drewN | apply below_drew1 | refine below_set ?_ GE141.out | refine below_set ?_ GE142.out) | exact HB.out)); (case side2 => exact Kd.R_tight rfl HO_6.out); (case side3 => exact Kd.C_kept_own (HO159.out) (fun k_ hk_ hs_ => (hk_.2) hs_)); (case side4 => exact (Kd.R_reads' HO159.out).2.1); rintro e w48 ⟨v161, rfl, ho0, hb, hkp⟩; refine ⟨_, rfl, ?_⟩; have n0_ := Aside0.mk (blk_kept (by (with_reducible repeat (first | refine blk_drewN ?_ _ | refine blk_drew ?_ | refine blk_alloc ?_ _)); exact BK141.out) hkp (fun hs_ => (fun e_ => (Kd.R_ne HO_6.out BK141.out (by decide)) e_) hs_)); have n1_ := Aside0.mk (blk_kept (by (with_reducible repeat (first | refine blk_drewN ?_ _ | refine blk_drew ?_ | refine blk_alloc ?_ _)); exact BK142.out) hkp (fun hs_ => (fun e_ => (Kd.R_ne HO_6.out BK142.out (by decide)) e_) hs_)); have n2_ := Aside0.mk (Kd.R_mono (ok' := fun k_ => some k_ ≠ (v161 : Value).ownBlock) (Kd.R_keptB (HO159.out) hkp (fun k_ hk_ hs_ => (hk_.2) hs_)) (fun k_ hk_ => fun e_ => Or.elim (ho0.1 k_ e_.symm) (fun hs_ => hk_.2.1 hs_) (fun hn_ => Nat.not_le.2 hk_.2.2 hn_))); have n3_ := Aside0.mk (Kd.R_mono (ok' := fun k_ => some k_ ≠ (.slice Ao47 t157.length co47 : Value).ownBlock) ho0 (fun k_ hk_ => Or.elim hk_ (fun hs_ => fun e_ => (((HO159.out).1 k_ e_.symm).2) hs_) (fun hn_ => (Kd.fresh' (Kd.R_lt (by (with_reducible repeat (first | apply Kd.R_alloc | apply Kd.R_drewN | apply Kd.R_drew)); exact HO159.out)) k_ hn_)))); have n4_ := Aside0.mk (hb); clear BK141; clear BK142; clear HO159; clear HB; clear HO_6; have BK141 := n0_; have BK142 := n1_; have HO159 := n2_; have HO162 := n3_; have HB := n4_; clear n0_ n1_ n2_ n3_ n4_; (try clear hb); (try clear hkp); (try clear ho0)))
                      go_ret2
                      exact ⟨_, by first | rfl | (simp [errW_none, errW_some] <;> rfl) | (simp [*, errW_none, errW_some] <;> rfl), by (with_reducible repeat (first | apply Kd.R_alloc | apply Kd.R_drewN | apply Kd.R_drew)); exact Kd.R_mono HO162.out (fun _ hk => trivial), by repeat (first | (with_reducible first | exact HB.out | apply below_alloc | apply pw_below_drewN | apply below_drew1 | refine below_set ?_ GE141.out | refine below_set ?_ GE142.out) | exact HB.out)⟩
                    · replace c40 := Bool.eq_false_iff.mpr c40
                      subst c40
                      have H1 : (if a0_0 = 15 then (pdu_AnswerBytes.j3 kj36 y148 (a0_0 == 15) a0_0 a0_1 a0_2 l0_3 a0_4 a0_5 a0_6) else (pdu_AnswerBytes.j3 kj36 y148 (a0_0 == 16) a0_0 a0_1 a0_2 l0_3 a0_4 a0_5 a0_6)) = some (r1, r2) := by rw [if_neg (show ¬ (false = true) by decide)] at H; exact H
                      clear H
                      have H := H1
                      clear H1
                      have HC49 := Aside0.mk H
                      clear H
                      go_upto_if 50 with (fail)
                      go_cut [50] (fun v50 wc => ∃ (kq : Nat) (x50_48 : Bool), v50 = .bool x50_48 ∧ Aside0 (pdu_AnswerBytes.j3 kq y148 x50_48 a0_0 a0_1 a0_2 l0_3 a0_4 a0_5 a0_6 = some (r1, r2)) ∧ Aside0 (kq ≤ kj36) ∧ Aside0 (Kd.R (Kd.int .u8) 5 wc w.heap.size (fun _ => True) v149 y148) ∧ Aside0 (wc.heap[gb141]? = some (.cells #[.int .i64 a0_0, .int .i64 a0_1, .int .i64 a0_2, (.slice A0_3 l0_3.length c0_3), .int .i64 a0_4, .int .i64 a0_5, .int .i64 a0_6] 31 (0, 0))) ∧ Aside0 (wc.heap[gb142]? = some (.cells #[(.slice A1_0 l1_0.length c1_0), .int .i64 a1_1] 46 (0, 0))) ∧ Aside0 (Below w.heap.size w wc))
                      case first =>
                        have H := HC49.out
                        clear HC49
                        by_cases c50 : a0_0 = 15
                        · rw [if_pos c50] at H
                          have c50b0 : (a0_0 == 15) = true := beq_iff_eq.mpr c50
                          have c50b1 : (a0_0 != 15) = false := bne_eq_false_iff_eq.mpr c50
                          clear c50
                          (first | rw [c50b0] | (simp only [i64_w, i32_w]; rw [c50b0]) | skip)
                          have H' := Aside0.mk H
                          clear H
                          go_wp2
                          go_meet
                          case rel => exact ⟨_, ((a0_0 == 15)), (by first | rfl | (simp; done) | (simp [*]; done)), H', ⟨by have := HJ2.out; have := HJ19.out; have := HJ36.out; first | omega | exact Nat.le_refl _⟩, ⟨by (with_reducible repeat (first | apply Kd.R_alloc | apply Kd.R_drewN | apply Kd.R_drew)); exact HO_6.out⟩, ⟨by (with_reducible repeat (first | refine blk_drewN ?_ _ | refine blk_drew ?_ | refine blk_alloc ?_ _)); exact BK141.out⟩, ⟨by (with_reducible repeat (first | refine blk_drewN ?_ _ | refine blk_drew ?_ | refine blk_alloc ?_ _)); exact BK142.out⟩, ⟨by repeat (first | (with_reducible first | exact HB.out | apply below_alloc | apply pw_below_drewN | apply below_drew1 | refine below_set ?_ GE141.out | refine below_set ?_ GE142.out) | exact HB.out)⟩⟩
                        · rw [if_neg c50] at H
                          have c50b0 : (a0_0 == 15) = false := beq_eq_false_iff_ne.mpr c50
                          have c50b1 : (a0_0 != 15) = true := bne_iff_ne.mpr c50
                          (first | rw [c50b0] | (simp only [i64_w, i32_w]; rw [c50b0]) | skip)
                          have H' := Aside0.mk H
                          clear H
                          go_wp2
                          go_meet
                          case rel => exact ⟨_, ((a0_0 == 16)), (by first | rfl | (simp; done) | (simp [*]; done)), H', ⟨by have := HJ2.out; have := HJ19.out; have := HJ36.out; first | omega | exact Nat.le_refl _⟩, ⟨by (with_reducible repeat (first | apply Kd.R_alloc | apply Kd.R_drewN | apply Kd.R_drew)); exact HO_6.out⟩, ⟨by (with_reducible repeat (first | refine blk_drewN ?_ _ | refine blk_drew ?_ | refine blk_alloc ?_ _)); exact BK141.out⟩, ⟨by (with_reducible repeat (first | refine blk_drewN ?_ _ | refine blk_drew ?_ | refine blk_alloc ?_ _)); exact BK142.out⟩, ⟨by repeat (first | (with_reducible first | exact HB.out | apply below_alloc | apply pw_below_drewN | apply below_drew1 | refine below_set ?_ GE141.out | refine below_set ?_ GE142.out) | exact HB.out)⟩⟩
                      case rest =>
                        clear HC49
                        try clear c1
                        try clear c2
                        try clear p2
                        try clear c3
                        try clear c4
                        try clear c5
                        try clear c6
                        try clear c7
                        try clear c7b0
                        try clear c7b1
                        try clear c9
                        try clear c15
                        try clear c18
                        try clear c19
                        try clear c19b0
                        try clear c19b1
                        try clear c21
                        try clear c27
                        try clear c27b0
                        try clear c27b1
                        try clear c28
                        try clear c29
                        try clear c31
                        try clear c38
                        try clear c38b0
                        try clear c38b1
                        try clear c39
                        try clear c39b0
                        try clear c39b1
                        try clear c40
                        try clear c43
                        try clear c50
                        try clear c50b0
                        try clear c50b1
                        try clear hcz10_0
                        try clear hcz10_1
                        try clear hcz10_2
                        try clear hcz10_3
                        try clear hcz10_4
                        try clear hcz10_5
                        try clear hcz10_6
                        try clear hcz12_0
                        try clear hcz12_1
                        try clear hcz12_2
                        try clear hcz12_3
                        try clear hcz12_4
                        try clear hcz12_5
                        try clear hcz12_6
                        try clear hcz13_0
                        try clear hcz13_1
                        try clear hcz16_0
                        try clear hcz16_1
                        try clear hcz16_2
                        try clear hcz16_3
                        try clear hcz16_4
                        try clear hcz16_5
                        try clear hcz16_6
                        try clear hcz22_0
                        try clear hcz22_1
                        try clear hcz23_0
                        try clear hcz23_1
                        try clear hcz23_2
                        try clear hcz23_3
                        try clear hcz23_4
                        try clear hcz23_5
                        try clear hcz23_6
                        try clear hcz26_0
                        try clear hcz26_1
                        try clear hcz26_2
                        try clear hcz26_3
                        try clear hcz26_4
                        try clear hcz26_5
                        try clear hcz26_6
                        try clear hcz32_0
                        try clear hcz32_1
                        try clear hcz44_0
                        try clear hcz44_1
                        try clear hfz10_0
                        try clear hfz10_1
                        try clear hfz10_2
                        try clear hfz10_3
                        try clear hfz10_4
                        try clear hfz10_5
                        try clear hfz10_6
                        try clear hfz12_0
                        try clear hfz12_1
                        try clear hfz12_2
                        try clear hfz12_3
                        try clear hfz12_4
                        try clear hfz12_5
                        try clear hfz12_6
                        try clear hfz13_0
                        try clear hfz13_1
                        try clear hfz16_0
                        try clear hfz16_1
                        try clear hfz16_2
                        try clear hfz16_3
                        try clear hfz16_4
                        try clear hfz16_5
                        try clear hfz16_6
                        try clear hfz22_0
                        try clear hfz22_1
                        try clear hfz23_0
                        try clear hfz23_1
                        try clear hfz23_2
                        try clear hfz23_3
                        try clear hfz23_4
                        try clear hfz23_5
                        try clear hfz23_6
                        try clear hfz26_0
                        try clear hfz26_1
                        try clear hfz26_2
                        try clear hfz26_3
                        try clear hfz26_4
                        try clear hfz26_5
                        try clear hfz26_6
                        try clear hfz32_0
                        try clear hfz32_1
                        try clear hfz44_0
                        try clear hfz44_1
                        try clear p2
                        obtain ⟨kq, x50_48, rfl, HA, HJ48, HO_6, BK141, BK142, HB⟩ := hcut
                        cases kq with
                        | zero => exact absurd HA.out (by simp [pdu_AnswerBytes.j3])
                        | succ kj48 =>
                          have H := HA.out
                          clear HA
                          simp only [pdu_AnswerBytes.j3] at H
                          by_cases c51 : x50_48 = true
                          · subst c51
                            have H1 : ((pdu_lay.f y148 (([a0_1, a0_2] : List Int))).bind fun t166 => (some (t166, 0))) = some (r1, r2) := by rw [if_pos rfl] at H; exact H
                            clear H
                            have H := H1
                            clear H1
                            obtain ⟨y163, hy163⟩ : ∃ y_ : List Int, y_ = (([a0_1, a0_2] : List Int)) := ⟨_, rfl⟩
                            replace H : ((pdu_lay.f y148 y163).bind fun t166 => (some (t166, 0))) = some (r1, r2) := by first | (rw [hy163]; with_reducible exact H) | (have H2_ := (Option.bind_some _ _).symm.trans H; rw [hy163]; with_reducible exact H2_) | (have H2_ := (Option.bind_some _ _).symm.trans H; with_reducible exact H2_) | with_reducible exact H | (rw [hy163]; exact H) | exact H
                            have Ny163 := Aside0.mk hy163
                            clear hy163
                            replace H := Option.bind_eq_some_iff.mp H
                            obtain ⟨t166, A520, H⟩ := H
                            replace H : (some (t166, 0)) = some (r1, r2) := H
                            have A52 := Aside0.mk A520
                            clear A520
                            simp only [Option.some.injEq, Prod.mk.injEq] at H
                            obtain ⟨rfl, rfl⟩ := H
                            have hnb53 := NB141_142.out
                            have hnc53 := NB142_141.out
                            have hcz54_0 : wc.cell? ⟨gb141, 0, none⟩ = some (.int .i64 a0_0) := (blk_cell BK141.out 0).trans rfl
                            have hcz54_1 : wc.cell? ⟨gb141, 1, none⟩ = some (.int .i64 a0_1) := (blk_cell BK141.out 1).trans rfl
                            have hcz54_2 : wc.cell? ⟨gb141, 2, none⟩ = some (.int .i64 a0_2) := (blk_cell BK141.out 2).trans rfl
                            have hcz54_3 : wc.cell? ⟨gb141, 3, none⟩ = some (.slice A0_3 l0_3.length c0_3) := (blk_cell BK141.out 3).trans rfl
                            have hcz54_4 : wc.cell? ⟨gb141, 4, none⟩ = some (.int .i64 a0_4) := (blk_cell BK141.out 4).trans rfl
                            have hcz54_5 : wc.cell? ⟨gb141, 5, none⟩ = some (.int .i64 a0_5) := (blk_cell BK141.out 5).trans rfl
                            have hcz54_6 : wc.cell? ⟨gb141, 6, none⟩ = some (.int .i64 a0_6) := (blk_cell BK141.out 6).trans rfl
                            have hfz54_0 := blk_frozen BK141.out 0
                            have hfz54_1 := blk_frozen BK141.out 1
                            have hfz54_2 := blk_frozen BK141.out 2
                            have hfz54_3 := blk_frozen BK141.out 3
                            have hfz54_4 := blk_frozen BK141.out 4
                            have hfz54_5 := blk_frozen BK141.out 5
                            have hfz54_6 := blk_frozen BK141.out 6
                            go_wp2_with (first | ((with_reducible refine gate_dst (N := 58) rfl ?_); refine Kd.R_lit (Kd.int .i64) _ 3 ?hg (N := 58) ?hd (xs := ([a0_1, a0_2] : List Int)) (inner := [.int .i64 a0_1, .int .i64 a0_2]) (ok := fun _ => True) (okp := fun _ => True) ?hr ?hp (fun _ hk => hk) trivial (Below.refl _ _) (Nat.le_refl _) (by simp) ?_; (case hd => rfl); (case hg => rfl); (case hr => first | (go_simp; done) | (go_simp; rfl)); (case hp => exact (Reps.one (show Kd.M (Kd.int .i64) _ _ _ a0_1 [.int .i64 a0_1] from rfl) (Reps.one (show Kd.M (Kd.int .i64) _ _ _ a0_2 [.int .i64 a0_2] from rfl) (Reps.none _ _)))); intro v164 w55 ho56 hb hg_ hnew_; clear hg_ hnew_; (first | rw [← Ny163.out] at ho56 | (simp only [Int.reduceToNat] at ho56; rw [← Ny163.out] at ho56)); have n0_ := Aside0.mk (Kd.R_below (by (with_reducible repeat (first | apply Kd.R_alloc | apply Kd.R_drewN | apply Kd.R_drew)); exact HO_6.out) hb); have n1_ := Aside0.mk (Kd.R_lower ho56 (below_size (by repeat (first | (with_reducible first | exact HB.out | apply below_alloc | apply pw_below_drewN | apply below_drew1 | refine below_set ?_ GE141.out | refine below_set ?_ GE142.out) | exact HB.out)))); have n2_ := Aside0.mk (blk_below (g := gb141) (o := .cells #[.int .i64 a0_0, .int .i64 a0_1, .int .i64 a0_2, .slice A0_3 l0_3.length c0_3, .int .i64 a0_4, .int .i64 a0_5, .int .i64 a0_6] 31 (0, 0)) (by (with_reducible repeat (first | refine blk_drewN ?_ _ | refine blk_drew ?_ | refine blk_alloc ?_ _)); exact BK141.out) hb); have n3_ := Aside0.mk (blk_below (g := gb142) (o := .cells #[.slice A1_0 l1_0.length c1_0, .int .i64 a1_1] 46 (0, 0)) (by (with_reducible repeat (first | refine blk_drewN ?_ _ | refine blk_drew ?_ | refine blk_alloc ?_ _)); exact BK142.out) hb); have n4_ := Aside0.mk (below_step (by repeat (first | (with_reducible first | exact HB.out | apply below_alloc | apply pw_below_drewN | apply below_drew1 | refine below_set ?_ GE141.out | refine below_set ?_ GE142.out) | exact HB.out)) hb); clear HO_6; clear BK141; clear BK142; clear HB; have HO_6 := n0_; have HO165 := n1_; have BK141 := n2_; have BK142 := n3_; have HB := n4_; clear n0_ n1_ n2_ n3_ n4_; clear hb ho56; obtain ⟨Ao57, co57, eo57⟩ := Kd.R_slice HO_6.out; subst eo57; obtain ⟨Ao58, co58, eo58⟩ := Kd.R_slice HO165.out; subst eo58) | ((with_reducible refine gate_callee (f := 63) rfl ?_); refine goesL_ (some 59) rfl rfl Try.func63 (by kernel_rfl) rfl #[.slice Ao57 y148.length co57, .slice Ao58 y163.length co58] rfl (by (try simp only [List.map_toArray, List.map_cons, List.map_nil]); first | done | rfl | (simp only [List.length_drop, List.length_take]; rfl)) ?_; (with_reducible refine (pdu_lay.calls _ _ y148 _ _ y163 t166 _ ?side1 ?side2 ?side3 ?side4 A52.out).mono ?_); (case side1 => repeat (first | exact (Kd.R_reads' HO_6.out).2.2 | (with_reducible refine Kd.C_alloc ?_ _) | (with_reducible refine Kd.C_drewN ?_ _) | (with_reducible refine Kd.C_drew ?_))); (case side2 => exact (Kd.R_reads' HO_6.out).2.1); (case side3 => repeat (first | exact (Kd.R_reads' HO165.out).2.2 | (with_reducible refine Kd.C_alloc ?_ _) | (with_reducible refine Kd.C_drewN ?_ _) | (with_reducible refine Kd.C_drew ?_))); (case side4 => exact (Kd.R_reads' HO165.out).2.1); rintro e w59 ⟨v167, rfl, ho0, hb⟩; refine ⟨_, rfl, ?_⟩; have n0_ := Aside0.mk (Kd.R_elder' (by (with_reducible repeat (first | apply Kd.R_alloc | apply Kd.R_drewN | apply Kd.R_drew)); exact HO_6.out) (Kd.R_base ho0) hb); have n1_ := Aside0.mk (Kd.R_below (by (with_reducible repeat (first | apply Kd.R_alloc | apply Kd.R_drewN | apply Kd.R_drew)); exact HO165.out) hb); have n2_ := Aside0.mk (Kd.R_lower (Kd.R_new' ho0 (Kd.R_lt (by (with_reducible repeat (first | apply Kd.R_alloc | apply Kd.R_drewN | apply Kd.R_drew)); exact HO_6.out))) (below_size (by repeat (first | (with_reducible first | exact HB.out | apply below_alloc | apply pw_below_drewN | apply below_drew1 | refine below_set ?_ GE141.out | refine below_set ?_ GE142.out) | exact HB.out)))); have n3_ := Aside0.mk (blk_below (g := gb141) (o := .cells #[.int .i64 a0_0, .int .i64 a0_1, .int .i64 a0_2, .slice A0_3 l0_3.length c0_3, .int .i64 a0_4, .int .i64 a0_5, .int .i64 a0_6] 31 (0, 0)) (by (with_reducible repeat (first | refine blk_drewN ?_ _ | refine blk_drew ?_ | refine blk_alloc ?_ _)); exact BK141.out) hb); have n4_ := Aside0.mk (blk_below (g := gb142) (o := .cells #[.slice A1_0 l1_0.length c1_0, .int .i64 a1_1] 46 (0, 0)) (by (with_reducible repeat (first | refine blk_drewN ?_ _ | refine blk_drew ?_ | refine blk_alloc ?_ _)); exact BK142.out) hb); have n5_ := Aside0.mk (below_step (by repeat (first | (with_reducible first | exact HB.out | apply below_alloc | apply pw_below_drewN | apply below_drew1 | refine below_set ?_ GE141.out | refine below_set ?_ GE142.out) | exact HB.out)) hb); clear HO_6; clear HO165; clear BK141; clear BK142; clear HB; have HO_6 := n0_; have HO165 := n1_; have HO168 := n2_; have BK141 := n3_; have BK142 := n4_; have HB := n5_; clear n0_ n1_ n2_ n3_ n4_ n5_; (try clear hb); (try clear hb2); (try clear hk); (try clear hi); (try clear ho0)))
                            go_ret2
                            exact ⟨_, by first | rfl | (simp [errW_none, errW_some] <;> rfl) | (simp [*, errW_none, errW_some] <;> rfl), by (with_reducible repeat (first | apply Kd.R_alloc | apply Kd.R_drewN | apply Kd.R_drew)); exact Kd.R_mono HO168.out (fun _ hk => trivial), by repeat (first | (with_reducible first | exact HB.out | apply below_alloc | apply pw_below_drewN | apply below_drew1 | refine below_set ?_ GE141.out | refine below_set ?_ GE142.out) | exact HB.out)⟩
                          · replace c51 := Bool.eq_false_iff.mpr c51
                            subst c51
                            have H1 : ((pdu_Bytes.f a0_0 a0_1 a0_2 l0_3 a0_4 a0_5 a0_6).bind fun bt169 => (some (bt169.1, bt169.2))) = some (r1, r2) := by rw [if_neg (show ¬ (false = true) by decide)] at H; exact H
                            clear H
                            have H := H1
                            clear H1
                            replace H := Option.bind_eq_some_iff.mp H
                            obtain ⟨⟨t169, t172⟩, A600, H⟩ := H
                            replace H : (some (t169, t172)) = some (r1, r2) := H
                            have A60 := Aside0.mk A600
                            clear A600
                            simp only [Option.some.injEq, Prod.mk.injEq] at H
                            obtain ⟨rfl, rfl⟩ := H
                            have hnb61 := NB141_142.out
                            have hnc61 := NB142_141.out
                            have hcz62_0 : wc.cell? ⟨gb141, 0, none⟩ = some (.int .i64 a0_0) := (blk_cell BK141.out 0).trans rfl
                            have hcz62_1 : wc.cell? ⟨gb141, 1, none⟩ = some (.int .i64 a0_1) := (blk_cell BK141.out 1).trans rfl
                            have hcz62_2 : wc.cell? ⟨gb141, 2, none⟩ = some (.int .i64 a0_2) := (blk_cell BK141.out 2).trans rfl
                            have hcz62_3 : wc.cell? ⟨gb141, 3, none⟩ = some (.slice A0_3 l0_3.length c0_3) := (blk_cell BK141.out 3).trans rfl
                            have hcz62_4 : wc.cell? ⟨gb141, 4, none⟩ = some (.int .i64 a0_4) := (blk_cell BK141.out 4).trans rfl
                            have hcz62_5 : wc.cell? ⟨gb141, 5, none⟩ = some (.int .i64 a0_5) := (blk_cell BK141.out 5).trans rfl
                            have hcz62_6 : wc.cell? ⟨gb141, 6, none⟩ = some (.int .i64 a0_6) := (blk_cell BK141.out 6).trans rfl
                            have hfz62_0 := blk_frozen BK141.out 0
                            have hfz62_1 := blk_frozen BK141.out 1
                            have hfz62_2 := blk_frozen BK141.out 2
                            have hfz62_3 := blk_frozen BK141.out 3
                            have hfz62_4 := blk_frozen BK141.out 4
                            have hfz62_5 := blk_frozen BK141.out 5
                            have hfz62_6 := blk_frozen BK141.out 6
                            go_wp2_with (first | ((with_reducible refine gate_callee (f := 64) rfl ?_); refine goesL_ (some 61) rfl rfl Try.func64 (by kernel_rfl) rfl #[.agg #[.int .i64 a0_0, .int .i64 a0_1, .int .i64 a0_2, .slice A0_3 l0_3.length c0_3, .int .i64 a0_4, .int .i64 a0_5, .int .i64 a0_6]] rfl (by (try simp only [List.map_toArray, List.map_cons, List.map_nil]); first | done | rfl | (simp only [List.length_drop, List.length_take]; rfl)) ?_; (with_reducible refine (pdu_Bytes.calls a0_0 a0_1 a0_2 _ _ l0_3 a0_4 a0_5 a0_6 t169 t172 _ ?side1 ?side2 A60.out).mono ?_); (case side1 => repeat (first | exact (Kd.C_below HR0_3.out HB.out) | (with_reducible refine Kd.C_alloc ?_ _) | (with_reducible refine Kd.C_drewN ?_ _) | (with_reducible refine Kd.C_drew ?_))); (case side2 => exact HC0_3.out); rintro e w63 ⟨v170, rfl, ho0, hb⟩; refine ⟨_, rfl, ?_⟩; have n0_ := Aside0.mk (Kd.R_elder' (by (with_reducible repeat (first | apply Kd.R_alloc | apply Kd.R_drewN | apply Kd.R_drew)); exact HO_6.out) (Kd.R_base ho0) hb); have n1_ := Aside0.mk (Kd.R_lower (Kd.R_new' ho0 (Kd.R_lt (by (with_reducible repeat (first | apply Kd.R_alloc | apply Kd.R_drewN | apply Kd.R_drew)); exact HO_6.out))) (below_size (by repeat (first | (with_reducible first | exact HB.out | apply below_alloc | apply pw_below_drewN | apply below_drew1 | refine below_set ?_ GE141.out | refine below_set ?_ GE142.out) | exact HB.out)))); have n2_ := Aside0.mk (blk_below (g := gb141) (o := .cells #[.int .i64 a0_0, .int .i64 a0_1, .int .i64 a0_2, .slice A0_3 l0_3.length c0_3, .int .i64 a0_4, .int .i64 a0_5, .int .i64 a0_6] 31 (0, 0)) (by (with_reducible repeat (first | refine blk_drewN ?_ _ | refine blk_drew ?_ | refine blk_alloc ?_ _)); exact BK141.out) hb); have n3_ := Aside0.mk (blk_below (g := gb142) (o := .cells #[.slice A1_0 l1_0.length c1_0, .int .i64 a1_1] 46 (0, 0)) (by (with_reducible repeat (first | refine blk_drewN ?_ _ | refine blk_drew ?_ | refine blk_alloc ?_ _)); exact BK142.out) hb); have n4_ := Aside0.mk (below_step (by repeat (first | (with_reducible first | exact HB.out | apply below_alloc | apply pw_below_drewN | apply below_drew1 | refine below_set ?_ GE141.out | refine below_set ?_ GE142.out) | exact HB.out)) hb); clear HO_6; clear BK141; clear BK142; clear HB; have HO_6 := n0_; have HO171 := n1_; have BK141 := n2_; have BK142 := n3_; have HB := n4_; clear n0_ n1_ n2_ n3_ n4_; (try clear hb); (try clear hb2); (try clear hk); (try clear hi); (try clear ho0)))
                            go_ret2
                            exact ⟨_, by first | rfl | (simp [errW_none, errW_some] <;> rfl) | (simp [*, errW_none, errW_some] <;> rfl), by (with_reducible repeat (first | apply Kd.R_alloc | apply Kd.R_drewN | apply Kd.R_drew)); exact Kd.R_mono HO171.out (fun _ hk => trivial), by repeat (first | (with_reducible first | exact HB.out | apply below_alloc | apply pw_below_drewN | apply below_drew1 | refine below_set ?_ GE141.out | refine below_set ?_ GE142.out) | exact HB.out)⟩
        · rw [if_neg c19] at H
          have c19b0 : (a1_1 == 0) = false := beq_eq_false_iff_ne.mpr c19
          have c19b1 : (a1_1 != 0) = true := bne_iff_ne.mpr c19
          obtain ⟨y145, hy145⟩ : ∃ y_ : List Int, y_ = (([Go.bits .or .u8 ((a0_0) % 256) 128, (a1_1) % 256] : List Int)) := ⟨_, rfl⟩
          replace H : (some (y145, 0)) = some (r1, r2) := by first | (rw [hy145]; with_reducible exact H) | (have H2_ := (Option.bind_some _ _).symm.trans H; rw [hy145]; with_reducible exact H2_) | (have H2_ := (Option.bind_some _ _).symm.trans H; with_reducible exact H2_) | with_reducible exact H | (rw [hy145]; exact H) | exact H
          have Ny145 := Aside0.mk hy145
          clear hy145
          simp only [Option.some.injEq, Prod.mk.injEq] at H
          obtain ⟨rfl, rfl⟩ := H
          have hnb64 := NB142_141.out
          have hnc64 := NB141_142.out
          have hcz65_0 : wc.cell? ⟨gb142, 0, none⟩ = some (.slice A1_0 l1_0.length c1_0) := (blk_cell BK142.out 0).trans rfl
          have hcz65_1 : wc.cell? ⟨gb142, 1, none⟩ = some (.int .i64 a1_1) := (blk_cell BK142.out 1).trans rfl
          have hfz65_0 := blk_frozen BK142.out 0
          have hfz65_1 := blk_frozen BK142.out 1
          have hcz66_0 : wc.cell? ⟨gb141, 0, none⟩ = some (.int .i64 a0_0) := (blk_cell BK141.out 0).trans rfl
          have hcz66_1 : wc.cell? ⟨gb141, 1, none⟩ = some (.int .i64 a0_1) := (blk_cell BK141.out 1).trans rfl
          have hcz66_2 : wc.cell? ⟨gb141, 2, none⟩ = some (.int .i64 a0_2) := (blk_cell BK141.out 2).trans rfl
          have hcz66_3 : wc.cell? ⟨gb141, 3, none⟩ = some (.slice A0_3 l0_3.length c0_3) := (blk_cell BK141.out 3).trans rfl
          have hcz66_4 : wc.cell? ⟨gb141, 4, none⟩ = some (.int .i64 a0_4) := (blk_cell BK141.out 4).trans rfl
          have hcz66_5 : wc.cell? ⟨gb141, 5, none⟩ = some (.int .i64 a0_5) := (blk_cell BK141.out 5).trans rfl
          have hcz66_6 : wc.cell? ⟨gb141, 6, none⟩ = some (.int .i64 a0_6) := (blk_cell BK141.out 6).trans rfl
          have hfz66_0 := blk_frozen BK141.out 0
          have hfz66_1 := blk_frozen BK141.out 1
          have hfz66_2 := blk_frozen BK141.out 2
          have hfz66_3 := blk_frozen BK141.out 3
          have hfz66_4 := blk_frozen BK141.out 4
          have hfz66_5 := blk_frozen BK141.out 5
          have hfz66_6 := blk_frozen BK141.out 6
          go_wp2_with (first | ((with_reducible refine gate_dst (N := 26) rfl ?_); refine Kd.R_lit (Kd.int .u8) _ 5 ?hg (N := 26) ?hd (xs := ([Go.bits .or .u8 ((a0_0) % 256) 128, (a1_1) % 256] : List Int)) (inner := [.int .u8 (Go.bits .or .u8 ((a0_0) % 256) 128), .int .u8 ((a1_1) % 256)]) (ok := fun _ => True) (okp := fun _ => True) ?hr ?hp (fun _ hk => hk) trivial (Below.refl _ _) (Nat.le_refl _) (by simp) ?_; (case hd => rfl); (case hg => rfl); (case hr => first | (go_simp; done) | (go_simp; rfl)); (case hp => exact (Reps.one (show Kd.M (Kd.int .u8) _ _ _ (Go.bits .or .u8 ((a0_0) % 256) 128) [.int .u8 (Go.bits .or .u8 ((a0_0) % 256) 128)] from rfl) (Reps.one (show Kd.M (Kd.int .u8) _ _ _ ((a1_1) % 256) [.int .u8 ((a1_1) % 256)] from rfl) (Reps.none _ _)))); intro v146 w67 ho68 hb hg_ hnew_; clear hg_ hnew_; (first | rw [← Ny145.out] at ho68 | (simp only [Int.reduceToNat] at ho68; rw [← Ny145.out] at ho68)); have n0_ := Aside0.mk (Kd.R_lower ho68 (below_size (by repeat (first | (with_reducible first | exact HB.out | apply below_alloc | apply pw_below_drewN | apply below_drew1 | refine below_set ?_ GE141.out | refine below_set ?_ GE142.out) | exact HB.out)))); have n1_ := Aside0.mk (blk_below (g := gb141) (o := .cells #[.int .i64 a0_0, .int .i64 a0_1, .int .i64 a0_2, .slice A0_3 l0_3.length c0_3, .int .i64 a0_4, .int .i64 a0_5, .int .i64 a0_6] 31 (0, 0)) (by (with_reducible repeat (first | refine blk_drewN ?_ _ | refine blk_drew ?_ | refine blk_alloc ?_ _)); exact BK141.out) hb); have n2_ := Aside0.mk (blk_below (g := gb142) (o := .cells #[.slice A1_0 l1_0.length c1_0, .int .i64 a1_1] 46 (0, 0)) (by (with_reducible repeat (first | refine blk_drewN ?_ _ | refine blk_drew ?_ | refine blk_alloc ?_ _)); exact BK142.out) hb); have n3_ := Aside0.mk (below_step (by repeat (first | (with_reducible first | exact HB.out | apply below_alloc | apply pw_below_drewN | apply below_drew1 | refine below_set ?_ GE141.out | refine below_set ?_ GE142.out) | exact HB.out)) hb); clear BK141; clear BK142; clear HB; have HO147 := n0_; have BK141 := n1_; have BK142 := n2_; have HB := n3_; clear n0_ n1_ n2_ n3_; clear hb ho68))
          go_ret2
          exact ⟨_, by first | rfl | (simp [errW_none, errW_some] <;> rfl) | (simp [*, errW_none, errW_some] <;> rfl), by (with_reducible repeat (first | apply Kd.R_alloc | apply Kd.R_drewN | apply Kd.R_drew)); exact HO147.out, by repeat (first | (with_reducible first | exact HB.out | apply below_alloc | apply pw_below_drewN | apply below_drew1 | refine below_set ?_ GE141.out | refine below_set ?_ GE142.out) | exact HB.out)⟩
end Go.Proofs.Ytlalpooiegganaa.PQ
end

section
namespace Go.Proofs.Ytlalpooiegganaa.PQ
open Go.RowKit Go.Proofs.YtlalpooiegganaaW.PrintWords Go.Proofs.YtlalpooiegganaaW.PrintLast Go.Proofs.YtlalpooiegganaaW.PrintMore
attribute [local go_sem] max2_int min2_int max_two min_two max_three min_three max_four min_four   
set_option linter.unusedVariables false
set_option linter.unusedSimpArgs false
open Go.Proofs.Ytlalpooiegganaa.Ext Go.Proofs.Ytlalpooiegganaa.PP Go.Proofs.Ytlalpooiegganaa.ExtF Go.Proofs.Ytlalpooiegganaa.ExtH
def bytes_Equal.f (l0 : List Int) (l1 : List Int) : Option (Bool) := some ((strOfNums l0).toList == (strOfNums l1).toList)
set_option maxHeartbeats 8000000 in
set_option maxRecDepth 100000 in
theorem bytes_Equal.calls (A0 : Option Addr) (c0 : Nat) (l0 : List Int) (A1 : Option Addr) (c1 : Nat) (l1 : List Int) (r : Bool) (w : World) (hr0 : Kd.C (Kd.int .u8) w A0 l0.length l0) (hc0 : l0.length ≤ c0) (hr1 : Kd.C (Kd.int .u8) w A1 l1.length l1) (hc1 : l1.length ≤ c1) (h : bytes_Equal.f l0 l1 = some r) :
    Calls Try.prog 51 #[.slice A0 l0.length c0, .slice A1 l1.length c1] w fun e w' => e = .returned (.bool r) ∧ Drawn0 w w' := by
  have HR0 := Aside0.mk hr0
  have HC0 := Aside0.mk hc0
  clear hr0 hc0
  have HR1 := Aside0.mk hr1
  have HC1 := Aside0.mk hc1
  clear hr1 hc1
  have H : (some ((strOfNums l0).toList == (strOfNums l1).toList)) = some r := h
  clear h
  obtain rfl := Option.some.inj H
  have hcv3 := Kd.C_string (P := Try.prog) (A := A0) (c := c0) Try.underlying43 Try.underlying5 Try.underlying9 HR0.out
  have hcv4 := Kd.C_string (P := Try.prog) (A := A1) (c := c1) Try.underlying43 Try.underlying5 Try.underlying9 HR1.out
  go_enter Try.func51, Try.ntmps51
  go_wp2
  go_ret
  exact ⟨by first | rfl | (simp; done) | (simp [*]; done), by repeat (first | exact Drawn0.refl _ | apply Drawn0.step)⟩
end Go.Proofs.Ytlalpooiegganaa.PQ
end

section
namespace Go.Proofs.Ytlalpooiegganaa.PQ
open Go.RowKit Go.Proofs.YtlalpooiegganaaW.PrintWords Go.Proofs.YtlalpooiegganaaW.PrintLast Go.Proofs.YtlalpooiegganaaW.PrintMore
attribute [local go_sem] max2_int min2_int max_two min_two max_three min_three max_four min_four   
set_option linter.unusedVariables false
set_option linter.unusedSimpArgs false
open Go.Proofs.Ytlalpooiegganaa.Ext Go.Proofs.Ytlalpooiegganaa.PP Go.Proofs.Ytlalpooiegganaa.ExtF Go.Proofs.Ytlalpooiegganaa.ExtH
mutual
def pdu_AnswerParse.j1 : Nat → List Int → Int → Int → Int → List Int → Int → Int → Int → List Int → Int → Option (List Int × Int × Int)
  | 0, _, _, _, _, _, _, _, _, _, _ => none
  | k + 1, x1, x174000, x174001, x174002, x174003, x174004, x174005, x174006, x177000, x177001 => (pdu_AnswerBytes.f k x174000 x174001 x174002 x174003 x174004 x174005 x174006 x177000 x177001).bind fun bt196 => (if bt196.2 = 0 then ((bytes_Equal.f bt196.1 x1).bind fun t200 => (if t200 = true then (some (x177000, x177001, 0)) else (some (([] : List Int), 0, 4)))) else (some (([] : List Int), 0, 4)))
def pdu_AnswerParse.j0 : Nat → List Int → Bool → Int → Int → Int → List Int → Int → Int → Int → Int → Option (List Int × Int × Int)
  | 0, _, _, _, _, _, _, _, _, _, _ => none
  | k + 1, x1, x39, x174000, x174001, x174002, x174003, x174004, x174005, x174006, x177001 => if x39 = true then (if 2 ≤ (x1.length : Int) then ((wire_Unpack.f k (x1.drop 2) x174002).bind fun bt180 => (pdu_AnswerParse.j1 k x1 x174000 x174001 x174002 x174003 x174004 x174005 x174006 bt180.1 x177001)) else (none)) else (if x174000 = 3 then (if 2 ≤ (x1.length : Int) then ((pdu_words.f k (x1.drop 2)).bind fun t185 => (pdu_AnswerParse.j1 k x1 x174000 x174001 x174002 x174003 x174004 x174005 x174006 t185 x177001)) else (none)) else (if x174000 = 4 then (if 2 ≤ (x1.length : Int) then ((pdu_words.f k (x1.drop 2)).bind fun t189 => (pdu_AnswerParse.j1 k x1 x174000 x174001 x174002 x174003 x174004 x174005 x174006 t189 x177001)) else (none)) else (if x174000 = 23 then (if 2 ≤ (x1.length : Int) then ((pdu_words.f k (x1.drop 2)).bind fun t193 => (pdu_AnswerParse.j1 k x1 x174000 x174001 x174002 x174003 x174004 x174005 x174006 t193 x177001)) else (none)) else (pdu_AnswerParse.j1 k x1 x174000 x174001 x174002 x174003 x174004 x174005 x174006 ([] : List Int) x177001))))
end
def pdu_AnswerParse.f (k : Nat) (a0_0 : Int) (a0_1 : Int) (a0_2 : Int) (l0_3 : List Int) (a0_4 : Int) (a0_5 : Int) (a0_6 : Int) (l1 : List Int) : Option (List Int × Int × Int) := (pdu_Check.f a0_0 a0_1 a0_2 l0_3 a0_4 a0_5 a0_6).bind fun t175 => (if t175 = 0 then (if (l1.length : Int) < 2 then (some (([] : List Int), 0, 4)) else (if 0 < (l1.length : Int) then (if (wrap64 (rd l1 0)) = (Go.bits .or .i64 a0_0 128) then (if 1 < (l1.length : Int) then (if (wrap64 (rd l1 1)) = 0 then (some (([] : List Int), wrap64 (rd l1 1), 4)) else (pdu_AnswerParse.j1 k l1 a0_0 a0_1 a0_2 l0_3 a0_4 a0_5 a0_6 ([] : List Int) (wrap64 (rd l1 1)))) else (none)) else (if a0_0 = 1 then (pdu_AnswerParse.j0 k l1 true a0_0 a0_1 a0_2 l0_3 a0_4 a0_5 a0_6 0) else (pdu_AnswerParse.j0 k l1 (a0_0 == 2) a0_0 a0_1 a0_2 l0_3 a0_4 a0_5 a0_6 0))) else (none))) else (some (([] : List Int), 0, t175)))
theorem pdu_AnswerParse.mono_l : ∀ k, (∀ y0 y1 y2 y3 y4 y5 y6 y7 y8 y9, LeO (pdu_AnswerParse.j1 k y0 y1 y2 y3 y4 y5 y6 y7 y8 y9) (pdu_AnswerParse.j1 (k + 1) y0 y1 y2 y3 y4 y5 y6 y7 y8 y9)) ∧ (∀ y0 y1 y2 y3 y4 y5 y6 y7 y8 y9, LeO (pdu_AnswerParse.j0 k y0 y1 y2 y3 y4 y5 y6 y7 y8 y9) (pdu_AnswerParse.j0 (k + 1) y0 y1 y2 y3 y4 y5 y6 y7 y8 y9))
  | 0 => ⟨fun _ _ _ _ _ _ _ _ _ _ r h => by simp [pdu_AnswerParse.j1] at h, fun _ _ _ _ _ _ _ _ _ _ r h => by simp [pdu_AnswerParse.j0] at h⟩
  | k + 1 => by
    obtain ⟨ih0, ih1⟩ := pdu_AnswerParse.mono_l k
    refine ⟨?_, ?_⟩
    · intro y0 y1 y2 y3 y4 y5 y6 y7 y8 y9
      unfold pdu_AnswerParse.j1
      repeat' first
      | (with_reducible exact ih0 _ _ _ _ _ _ _ _ _ _)
      | (with_reducible exact ih1 _ _ _ _ _ _ _ _ _ _)
      | (with_reducible exact pdu_AnswerBytes.mono _ _ _ _ _ _ _ _ _ _)
      | (with_reducible exact pdu_words.mono _ _)
      | (with_reducible exact wire_Unpack.mono _ _ _)
      | (with_reducible exact LeO.refl _)
      | (with_reducible exact LeO.none _)
      | (with_reducible refine LeO.ite ?_ ?_)
      | (with_reducible refine LeO.bind ?_ (fun _ => ?_))
      | exact ih0 _ _ _ _ _ _ _ _ _ _
      | exact ih1 _ _ _ _ _ _ _ _ _ _
      | exact pdu_AnswerBytes.mono _ _ _ _ _ _ _ _ _ _
      | exact pdu_words.mono _ _
      | exact wire_Unpack.mono _ _ _
      | exact LeO.none _
      | refine LeO.ite ?_ ?_
      | refine LeO.bind ?_ (fun _ => ?_)
    · intro y0 y1 y2 y3 y4 y5 y6 y7 y8 y9
      unfold pdu_AnswerParse.j0
      repeat' first
      | (with_reducible exact ih0 _ _ _ _ _ _ _ _ _ _)
      | (with_reducible exact ih1 _ _ _ _ _ _ _ _ _ _)
      | (with_reducible exact pdu_AnswerBytes.mono _ _ _ _ _ _ _ _ _ _)
      | (with_reducible exact pdu_words.mono _ _)
      | (with_reducible exact wire_Unpack.mono _ _ _)
      | (with_reducible exact LeO.refl _)
      | (with_reducible exact LeO.none _)
      | (with_reducible refine LeO.ite ?_ ?_)
      | (with_reducible refine LeO.bind ?_ (fun _ => ?_))
      | exact ih0 _ _ _ _ _ _ _ _ _ _
      | exact ih1 _ _ _ _ _ _ _ _ _ _
      | exact pdu_AnswerBytes.mono _ _ _ _ _ _ _ _ _ _
      | exact pdu_words.mono _ _
      | exact wire_Unpack.mono _ _ _
      | exact LeO.none _
      | refine LeO.ite ?_ ?_
      | refine LeO.bind ?_ (fun _ => ?_)
theorem pdu_AnswerParse.mono : ∀ a0 a1 a2 a3 a4 a5 a6 a7 k, LeO (pdu_AnswerParse.f k a0 a1 a2 a3 a4 a5 a6 a7) (pdu_AnswerParse.f (k + 1) a0 a1 a2 a3 a4 a5 a6 a7) := by
  intro a0 a1 a2 a3 a4 a5 a6 a7 k
  obtain ⟨ih0, ih1⟩ := pdu_AnswerParse.mono_l k
  unfold pdu_AnswerParse.f
  repeat' first
      | (with_reducible exact ih0 _ _ _ _ _ _ _ _ _ _)
      | (with_reducible exact ih1 _ _ _ _ _ _ _ _ _ _)
      | (with_reducible exact pdu_AnswerBytes.mono _ _ _ _ _ _ _ _ _ _)
      | (with_reducible exact pdu_words.mono _ _)
      | (with_reducible exact wire_Unpack.mono _ _ _)
      | (with_reducible exact LeO.refl _)
      | (with_reducible exact LeO.none _)
      | (with_reducible refine LeO.ite ?_ ?_)
      | (with_reducible refine LeO.bind ?_ (fun _ => ?_))
      | exact ih0 _ _ _ _ _ _ _ _ _ _
      | exact ih1 _ _ _ _ _ _ _ _ _ _
      | exact pdu_AnswerBytes.mono _ _ _ _ _ _ _ _ _ _
      | exact pdu_words.mono _ _
      | exact wire_Unpack.mono _ _ _
      | exact LeO.none _
      | refine LeO.ite ?_ ?_
      | refine LeO.bind ?_ (fun _ => ?_)
def pdu_AnswerParse.T7 : Bool × List (List Nat × List Nat) := (true, [([], []), ([0], [0]), ([1], [1]), ([2], [2]), ([], []), ([4], [4]), ([5], [5]), ([3, 6], [3, 6]), ([7], [7])])
def pdu_AnswerParse.B7 : List Nat := [0, 1, 3, 7, 0, 16, 48, 127, 255]
theorem pdu_AnswerParse.tab7 : rtab .any (opsOf Try.f35 7) = pdu_AnswerParse.T7 := by kernel_rfl
theorem pdu_AnswerParse.bits7 : waitsOk pdu_AnswerParse.T7.2 pdu_AnswerParse.B7 = true := by kernel_rfl
def pdu_AnswerParse.T12 : Bool × List (List Nat × List Nat) := (true, [([], []), ([0], [0]), ([], []), ([2], [2]), ([1, 3], [1, 3]), ([4], [4]), ([5], [5]), ([5], [5]), ([0, 1, 2, 3, 4, 5, 6], []), ([8, 6, 4, 0, 1, 2, 3, 4, 5, 6], [6, 8])])
def pdu_AnswerParse.B12 : List Nat := [0, 1, 0, 4, 15, 31, 63, 63, 127, 383]
theorem pdu_AnswerParse.tab12 : rtab .any (opsOf Try.f35 12) = pdu_AnswerParse.T12 := by kernel_rfl
theorem pdu_AnswerParse.bits12 : waitsOk pdu_AnswerParse.T12.2 pdu_AnswerParse.B12 = true := by kernel_rfl
set_option maxHeartbeats 8000000 in
set_option maxRecDepth 100000 in
theorem pdu_AnswerParse.calls (k : Nat) (a0_0 : Int) (a0_1 : Int) (a0_2 : Int) (A0_3 : Option Addr) (c0_3 : Nat) (l0_3 : List Int) (a0_4 : Int) (a0_5 : Int) (a0_6 : Int) (A1 : Option Addr) (c1 : Nat) (l1 : List Int) (r1 : List Int) (r2 : Int) (r3 : Int) (w : World) (hr0_3 : Kd.C (Kd.int .i64) w A0_3 l0_3.length l0_3) (hc0_3 : l0_3.length ≤ c0_3) (hr1 : Kd.C (Kd.int .u8) w A1 l1.length l1) (hc1 : l1.length ≤ c1) (h : pdu_AnswerParse.f k a0_0 a0_1 a0_2 l0_3 a0_4 a0_5 a0_6 l1 = some (r1, r2, r3)) :
    Calls Try.prog 35 #[.agg #[.int .i64 a0_0, .int .i64 a0_1, .int .i64 a0_2, .slice A0_3 l0_3.length c0_3, .int .i64 a0_4, .int .i64 a0_5, .int .i64 a0_6], .slice A1 l1.length c1] w fun e w' => ∃ v0_ : Value, e = .returned (.tuple #[.agg #[v0_, .int .i64 r2], .int .i64 r3]) ∧ Kd.R (Kd.int .i64) 3 w' w.heap.size (fun _ => True) v0_ r1 ∧ Below w.heap.size w w' := by
  have hu31 := Try.underlying31
  have hu46 := Try.underlying46
  have HR0_3 := Aside0.mk hr0_3
  have HC0_3 := Aside0.mk hc0_3
  clear hr0_3 hc0_3
  have HR1 := Aside0.mk hr1
  have HC1 := Aside0.mk hc1
  clear hr1 hc1
  have HB := Aside0.mk (Below.refl w.heap.size w)
  have H : ((pdu_Check.f a0_0 a0_1 a0_2 l0_3 a0_4 a0_5 a0_6).bind fun t175 => (if t175 = 0 then (if (l1.length : Int) < 2 then (some (([] : List Int), 0, 4)) else (if 0 < (l1.length : Int) then (if (wrap64 (rd l1 0)) = (Go.bits .or .i64 a0_0 128) then (if 1 < (l1.length : Int) then (if (wrap64 (rd l1 1)) = 0 then (some (([] : List Int), wrap64 (rd l1 1), 4)) else (pdu_AnswerParse.j1 k l1 a0_0 a0_1 a0_2 l0_3 a0_4 a0_5 a0_6 ([] : List Int) (wrap64 (rd l1 1)))) else (none)) else (if a0_0 = 1 then (pdu_AnswerParse.j0 k l1 true a0_0 a0_1 a0_2 l0_3 a0_4 a0_5 a0_6 0) else (pdu_AnswerParse.j0 k l1 (a0_0 == 2) a0_0 a0_1 a0_2 l0_3 a0_4 a0_5 a0_6 0))) else (none))) else (some (([] : List Int), 0, t175)))) = some (r1, r2, r3) := h
  clear h
  replace H := Option.bind_eq_some_iff.mp H
  obtain ⟨t175, A30, H⟩ := H
  replace H : (if t175 = 0 then (if (l1.length : Int) < 2 then (some (([] : List Int), 0, 4)) else (if 0 < (l1.length : Int) then (if (wrap64 (rd l1 0)) = (Go.bits .or .i64 a0_0 128) then (if 1 < (l1.length : Int) then (if (wrap64 (rd l1 1)) = 0 then (some (([] : List Int), wrap64 (rd l1 1), 4)) else (pdu_AnswerParse.j1 k l1 a0_0 a0_1 a0_2 l0_3 a0_4 a0_5 a0_6 ([] : List Int) (wrap64 (rd l1 1)))) else (none)) else (if a0_0 = 1 then (pdu_AnswerParse.j0 k l1 true a0_0 a0_1 a0_2 l0_3 a0_4 a0_5 a0_6 0) else (pdu_AnswerParse.j0 k l1 (a0_0 == 2) a0_0 a0_1 a0_2 l0_3 a0_4 a0_5 a0_6 0))) else (none))) else (some (([] : List Int), 0, t175))) = some (r1, r2, r3) := H
  have A3 := Aside0.mk A30
  clear A30
  by_cases c4 : t175 = 0
  · rw [if_pos c4] at H
    have c4b0 : (t175 == 0) = true := beq_iff_eq.mpr c4
    have c4b1 : (t175 != 0) = false := bne_eq_false_iff_eq.mpr c4
    clear c4
    have HC5 := Aside0.mk H
    clear H
    go_enter Try.func35, Try.ntmps35
    go_upto_block 0 with (first | ((with_reducible refine gate_dst (N := 2) rfl ?_); refine box_event ?hg (N := 2) ?hd (cs := #[.int .i64 a0_0, .int .i64 a0_1, .int .i64 a0_2, .slice A0_3 l0_3.length c0_3, .int .i64 a0_4, .int .i64 a0_5, .int .i64 a0_6]) (t := 31) ?hr ?_; (case hd => rfl); (case hg => rfl); (case hr => first | (go_simp; done) | (go_simp; rfl)); intro gb173 hg w6 hbox hb; have n0_ := Aside0.mk (below_step (by repeat (first | (with_reducible first | exact HB.out | apply below_alloc | apply pw_below_drewN | apply below_drew1) | exact HB.out)) hb); have n1_ := Aside0.mk (hbox); have n2_ := Aside0.mk ((by rw [hg]; exact (below_size (by repeat (first | (with_reducible first | exact HB.out | apply below_alloc | apply pw_below_drewN | apply below_drew1) | exact HB.out))) : w.heap.size ≤ gb173)); have n3_ := Aside0.mk ((by rw [hg]; exact (below_size (by repeat (first | (with_reducible first | exact HB.out | apply below_alloc | apply pw_below_drewN | apply below_drew1) | exact HB.out))) : w.heap.size ≤ gb173)); clear HB; have HB := n0_; have BK173 := n1_; have GW173 := n2_; have GE173 := n3_; clear n0_ n1_ n2_ n3_; clear hb hbox hg) | ((with_reducible refine gate_dst (N := 4) rfl ?_); refine box_event ?hg (N := 4) ?hd (cs := #[.slice none 0 0, .int .i64 0]) (t := 46) ?hr ?_; (case hd => rfl); (case hg => rfl); (case hr => first | (go_simp; done) | (go_simp; rfl)); intro gb174 hg w7 hbox hb; have n0_ := Aside0.mk (blk_below (g := gb173) (o := .cells #[.int .i64 a0_0, .int .i64 a0_1, .int .i64 a0_2, .slice A0_3 l0_3.length c0_3, .int .i64 a0_4, .int .i64 a0_5, .int .i64 a0_6] 31 (0, 0)) (by (with_reducible repeat (first | refine blk_drewN ?_ _ | refine blk_drew ?_ | refine blk_alloc ?_ _)); exact BK173.out) hb); have n1_ := Aside0.mk (below_step (by repeat (first | (with_reducible first | exact HB.out | apply below_alloc | apply pw_below_drewN | apply below_drew1 | refine below_set ?_ GE173.out) | exact HB.out)) hb); have n2_ := Aside0.mk (hbox); have n3_ := Aside0.mk ((by rw [hg]; exact (below_size (by repeat (first | (with_reducible first | exact HB.out | apply below_alloc | apply pw_below_drewN | apply below_drew1 | refine below_set ?_ GE173.out) | exact HB.out))) : w.heap.size ≤ gb174)); have n4_ := Aside0.mk ((by rw [hg]; exact (below_size (by repeat (first | (with_reducible first | exact HB.out | apply below_alloc | apply pw_below_drewN | apply below_drew1 | refine below_set ?_ GE173.out) | exact HB.out))) : w.heap.size ≤ gb174)); have n5_ := Aside0.mk ((by rw [hg]; exact Nat.ne_of_lt (blk_lt (g := gb173) (o := .cells #[.int .i64 a0_0, .int .i64 a0_1, .int .i64 a0_2, .slice A0_3 l0_3.length c0_3, .int .i64 a0_4, .int .i64 a0_5, .int .i64 a0_6] 31 (0, 0)) (by (with_reducible repeat (first | refine blk_drewN ?_ _ | refine blk_drew ?_ | refine blk_alloc ?_ _)); exact BK173.out)) : gb173 ≠ gb174)); have n6_ := Aside0.mk ((by rw [hg]; exact Nat.ne_of_gt (blk_lt (g := gb173) (o := .cells #[.int .i64 a0_0, .int .i64 a0_1, .int .i64 a0_2, .slice A0_3 l0_3.length c0_3, .int .i64 a0_4, .int .i64 a0_5, .int .i64 a0_6] 31 (0, 0)) (by (with_reducible repeat (first | refine blk_drewN ?_ _ | refine blk_drew ?_ | refine blk_alloc ?_ _)); exact BK173.out)) : gb174 ≠ gb173)); clear BK173; clear HB; have BK173 := n0_; have HB := n1_; have BK174 := n2_; have GW174 := n3_; have GE174 := n4_; have NB173_174 := n5_; have NB174_173 := n6_; clear n0_ n1_ n2_ n3_ n4_ n5_ n6_; clear hb hbox hg; have hnb8 := NB173_174.out; have hnc8 := NB174_173.out; have hcz9_0 : w7.cell? ⟨gb173, 0, none⟩ = some (.int .i64 a0_0) := (blk_cell BK173.out 0).trans rfl; have hcz9_1 : w7.cell? ⟨gb173, 1, none⟩ = some (.int .i64 a0_1) := (blk_cell BK173.out 1).trans rfl; have hcz9_2 : w7.cell? ⟨gb173, 2, none⟩ = some (.int .i64 a0_2) := (blk_cell BK173.out 2).trans rfl; have hcz9_3 : w7.cell? ⟨gb173, 3, none⟩ = some (.slice A0_3 l0_3.length c0_3) := (blk_cell BK173.out 3).trans rfl; have hcz9_4 : w7.cell? ⟨gb173, 4, none⟩ = some (.int .i64 a0_4) := (blk_cell BK173.out 4).trans rfl; have hcz9_5 : w7.cell? ⟨gb173, 5, none⟩ = some (.int .i64 a0_5) := (blk_cell BK173.out 5).trans rfl; have hcz9_6 : w7.cell? ⟨gb173, 6, none⟩ = some (.int .i64 a0_6) := (blk_cell BK173.out 6).trans rfl; have hfz9_0 := blk_frozen BK173.out 0; have hfz9_1 := blk_frozen BK173.out 1; have hfz9_2 := blk_frozen BK173.out 2; have hfz9_3 := blk_frozen BK173.out 3; have hfz9_4 := blk_frozen BK173.out 4; have hfz9_5 := blk_frozen BK173.out 5; have hfz9_6 := blk_frozen BK173.out 6) | ((with_reducible refine gate_callee (f := 29) rfl ?_); refine goesL_ (some 11) rfl rfl Try.func29 (by kernel_rfl) rfl #[.agg #[.int .i64 a0_0, .int .i64 a0_1, .int .i64 a0_2, .slice A0_3 l0_3.length c0_3, .int .i64 a0_4, .int .i64 a0_5, .int .i64 a0_6]] rfl (by (try simp only [List.map_toArray, List.map_cons, List.map_nil]); first | done | rfl | (simp only [List.length_drop, List.length_take]; rfl)) ?_; (with_reducible refine (pdu_Check.calls a0_0 a0_1 a0_2 _ _ l0_3 a0_4 a0_5 a0_6 t175 _ ?side1 ?side2 A3.out).mono ?_); (case side1 => repeat (first | exact (Kd.C_below HR0_3.out HB.out) | (with_reducible refine Kd.C_alloc ?_ _) | (with_reducible refine Kd.C_drewN ?_ _) | (with_reducible refine Kd.C_drew ?_))); (case side2 => exact HC0_3.out); rintro e w10 ⟨rfl, hb⟩; refine ⟨_, rfl, ?_⟩; have n0_ := Aside0.mk (blk_below (g := gb173) (o := .cells #[.int .i64 a0_0, .int .i64 a0_1, .int .i64 a0_2, .slice A0_3 l0_3.length c0_3, .int .i64 a0_4, .int .i64 a0_5, .int .i64 a0_6] 31 (0, 0)) (by (with_reducible repeat (first | refine blk_drewN ?_ _ | refine blk_drew ?_ | refine blk_alloc ?_ _)); exact BK173.out) hb); have n1_ := Aside0.mk (blk_below (g := gb174) (o := .cells #[.slice none 0 0, .int .i64 0] 46 (0, 0)) (by (with_reducible repeat (first | refine blk_drewN ?_ _ | refine blk_drew ?_ | refine blk_alloc ?_ _)); exact BK174.out) hb); have n2_ := Aside0.mk (below_step (by repeat (first | (with_reducible first | exact HB.out | apply below_alloc | apply pw_below_drewN | apply below_drew1 | refine below_set ?_ GE173.out | refine below_set ?_ GE174.out) | exact HB.out)) hb); clear BK173; clear BK174; clear HB; have BK173 := n0_; have BK174 := n1_; have HB := n2_; clear n0_ n1_ n2_; (try clear hb); (try clear hb2); (try clear hk); (try clear hi)) | ((with_reducible refine gate_dst (N := 7) rfl ?_); refine box_event ?hg (N := 7) ?hd (cs := #[.slice none 0 0, .int .i64 0]) (t := 46) ?hr ?_; (case hd => rfl); (case hg => rfl); (case hr => first | (go_simp; done) | (go_simp; rfl)); intro gb176 hg w11 hbox hb; have n0_ := Aside0.mk (blk_below (g := gb173) (o := .cells #[.int .i64 a0_0, .int .i64 a0_1, .int .i64 a0_2, .slice A0_3 l0_3.length c0_3, .int .i64 a0_4, .int .i64 a0_5, .int .i64 a0_6] 31 (0, 0)) (by (with_reducible repeat (first | refine blk_drewN ?_ _ | refine blk_drew ?_ | refine blk_alloc ?_ _)); exact BK173.out) hb); have n1_ := Aside0.mk (blk_below (g := gb174) (o := .cells #[.slice none 0 0, .int .i64 0] 46 (0, 0)) (by (with_reducible repeat (first | refine blk_drewN ?_ _ | refine blk_drew ?_ | refine blk_alloc ?_ _)); exact BK174.out) hb); have n2_ := Aside0.mk (below_step (by repeat (first | (with_reducible first | exact HB.out | apply below_alloc | apply pw_below_drewN | apply below_drew1 | refine below_set ?_ GE173.out | refine below_set ?_ GE174.out) | exact HB.out)) hb); have n3_ := Aside0.mk (hbox); have n4_ := Aside0.mk ((by rw [hg]; exact (below_size (by repeat (first | (with_reducible first | exact HB.out | apply below_alloc | apply pw_below_drewN | apply below_drew1 | refine below_set ?_ GE173.out | refine below_set ?_ GE174.out) | exact HB.out))) : w.heap.size ≤ gb176)); have n5_ := Aside0.mk ((by rw [hg]; exact (below_size (by repeat (first | (with_reducible first | exact HB.out | apply below_alloc | apply pw_below_drewN | apply below_drew1 | refine below_set ?_ GE173.out | refine below_set ?_ GE174.out) | exact HB.out))) : w.heap.size ≤ gb176)); have n6_ := Aside0.mk ((by rw [hg]; exact Nat.ne_of_lt (blk_lt (g := gb173) (o := .cells #[.int .i64 a0_0, .int .i64 a0_1, .int .i64 a0_2, .slice A0_3 l0_3.length c0_3, .int .i64 a0_4, .int .i64 a0_5, .int .i64 a0_6] 31 (0, 0)) (by (with_reducible repeat (first | refine blk_drewN ?_ _ | refine blk_drew ?_ | refine blk_alloc ?_ _)); exact BK173.out)) : gb173 ≠ gb176)); have n7_ := Aside0.mk ((by rw [hg]; exact Nat.ne_of_gt (blk_lt (g := gb173) (o := .cells #[.int .i64 a0_0, .int .i64 a0_1, .int .i64 a0_2, .slice A0_3 l0_3.length c0_3, .int .i64 a0_4, .int .i64 a0_5, .int .i64 a0_6] 31 (0, 0)) (by (with_reducible repeat (first | refine blk_drewN ?_ _ | refine blk_drew ?_ | refine blk_alloc ?_ _)); exact BK173.out)) : gb176 ≠ gb173)); have n8_ := Aside0.mk ((by rw [hg]; exact Nat.ne_of_lt (blk_lt (g := gb174) (o := .cells #[.slice none 0 0, .int .i64 0] 46 (0, 0)) (by (with_reducible repeat (first | refine blk_drewN ?_ _ | refine blk_drew ?_ | refine blk_alloc ?_ _)); exact BK174.out)) : gb174 ≠ gb176)); have n9_ := Aside0.mk ((by rw [hg]; exact Nat.ne_of_gt (blk_lt (g := gb174) (o := .cells #[.slice none 0 0, .int .i64 0] 46 (0, 0)) (by (with_reducible repeat (first | refine blk_drewN ?_ _ | refine blk_drew ?_ | refine blk_alloc ?_ _)); exact BK174.out)) : gb176 ≠ gb174)); clear BK173; clear BK174; clear HB; have BK173 := n0_; have BK174 := n1_; have HB := n2_; have BK176 := n3_; have GW176 := n4_; have GE176 := n5_; have NB173_176 := n6_; have NB176_173 := n7_; have NB174_176 := n8_; have NB176_174 := n9_; clear n0_ n1_ n2_ n3_ n4_ n5_ n6_ n7_ n8_ n9_; clear hb hbox hg))
    (try simp only [Act.put, List.setIfInBounds_toArray, List.set_cons_zero, List.set_cons_succ])
    go_cut [] (fun wc => ∃ (kq : Nat) (x175001_4 : Int) (x177000_4 : List Int) (x177001_4 : Int) (u177000 : Value), Aside0 (pdu_AnswerParse.j1 kq l1 a0_0 a0_1 a0_2 l0_3 a0_4 a0_5 a0_6 x177000_4 x177001_4 = some (r1, r2, r3)) ∧ Aside0 (kq ≤ k) ∧ Aside0 (Kd.R (Kd.int .i64) 3 wc w.heap.size (fun _ => True) u177000 x177000_4) ∧ Aside0 (wc.heap[gb173]? = some (.cells #[.int .i64 a0_0, .int .i64 a0_1, .int .i64 a0_2, (.slice A0_3 l0_3.length c0_3), .int .i64 a0_4, .int .i64 a0_5, .int .i64 a0_6] 31 (0, 0))) ∧ Aside0 (wc.heap[gb174]? = some (.cells #[(.slice none 0 0), .int .i64 x175001_4] 46 (0, 0))) ∧ Aside0 (wc.heap[gb176]? = some (.cells #[u177000, .int .i64 x177001_4] 46 (0, 0))) ∧ Aside0 (Below w.heap.size w wc))
    case first =>
      have H := HC5.out
      clear HC5
      by_cases c12 : (l1.length : Int) < 2
      · rw [if_pos c12] at H
        have c12b0 : decide ((l1.length : Int) < 2) = true := decide_eq_true c12
        have c12b1 : decide (l1.length < 2) = true := decide_eq_true (by omega)
        clear c12
        (first | rw [c12b0] | (simp only [i64_w, i32_w]; rw [c12b0]) | skip)
        simp only [Option.some.injEq, Prod.mk.injEq] at H
        obtain ⟨rfl, rfl, rfl⟩ := H
        have hnb13 := NB176_173.out
        have hnc13 := NB173_176.out
        have hnb14 := NB176_174.out
        have hnc14 := NB174_176.out
        have hcz15_0 : w11.cell? ⟨gb176, 0, none⟩ = some (.slice none 0 0) := (blk_cell BK176.out 0).trans rfl
        have hcz15_1 : w11.cell? ⟨gb176, 1, none⟩ = some (.int .i64 0) := (blk_cell BK176.out 1).trans rfl
        have hfz15_0 := blk_frozen BK176.out 0
        have hfz15_1 := blk_frozen BK176.out 1
        have hnb16 := NB174_173.out
        have hnc16 := NB173_174.out
        have hcz17_0 : w11.cell? ⟨gb174, 0, none⟩ = some (.slice none 0 0) := (blk_cell BK174.out 0).trans rfl
        have hcz17_1 : w11.cell? ⟨gb174, 1, none⟩ = some (.int .i64 0) := (blk_cell BK174.out 1).trans rfl
        have hfz17_0 := blk_frozen BK174.out 0
        have hfz17_1 := blk_frozen BK174.out 1
        go_wp2
        refine bodyPost_ret (results_ct rfl _ _ gb174 46 #[.slice none 0 0, .int .i64 0] (0, 0) _ rfl (by (with_reducible repeat (first | refine blk_drewN ?_ _ | refine blk_drew ?_ | refine blk_alloc ?_ _)); refine blk_put (cs := #[.slice none 0 0, .int .i64 0]) ?_ 1 _ rfl; (with_reducible repeat (first | refine blk_drewN ?_ _ | refine blk_drew ?_ | refine blk_alloc ?_ _)); refine blk_put (cs := #[.slice none 0 0, .int .i64 0]) ?_ 0 _ rfl; (with_reducible repeat (first | refine blk_drewN ?_ _ | refine blk_drew ?_ | refine blk_alloc ?_ _)); exact BK174.out) Try.underlying46 rfl (by kernel_rfl)) rfl ?_
        exact ⟨_, by first | rfl | (simp [errW_none, errW_some] <;> rfl) | (simp [*, errW_none, errW_some] <;> rfl), by first | exact Kd.R_nil _ _ _ _ _ | exact Kd.N_nil _ _ _ _ _ | exact Kd.V_nil _ _ _ _ _ | exact Kd.Q_nil _ _ _ _ _ | exact Kd.S_nil _ _ _ _ _, by repeat (first | (with_reducible first | exact HB.out | apply below_alloc | apply pw_below_drewN | apply below_drew1 | refine below_set ?_ GE173.out | refine below_set ?_ GE174.out | refine below_set ?_ GE176.out) | exact HB.out)⟩
      · rw [if_neg c12] at H
        have c12b0 : decide ((l1.length : Int) < 2) = false := decide_eq_false c12
        have c12b1 : decide (l1.length < 2) = false := decide_eq_false (by omega)
        clear c12
        (first | rw [c12b0] | (simp only [i64_w, i32_w]; rw [c12b0]) | skip)
        by_cases c18 : 0 < (l1.length : Int)
        · rw [if_pos c18] at H
          have c18b0 : decide (0 < (l1.length : Int)) = true := decide_eq_true c18
          have c18b1 : decide (0 < l1.length) = true := decide_eq_true (by omega)
          clear c18
          by_cases c19 : (wrap64 (rd l1 0)) = (Go.bits .or .i64 a0_0 128)
          · rw [if_pos c19] at H
            have c19b0 : ((wrap64 (rd l1 0)) == (Go.bits .or .i64 a0_0 128)) = true := beq_iff_eq.mpr c19
            have c19b1 : ((wrap64 (rd l1 0)) != (Go.bits .or .i64 a0_0 128)) = false := bne_eq_false_iff_eq.mpr c19
            clear c19
            by_cases c20 : 1 < (l1.length : Int)
            · rw [if_pos c20] at H
              have c20b0 : decide (1 < (l1.length : Int)) = true := decide_eq_true c20
              have c20b1 : decide (1 < l1.length) = true := decide_eq_true (by omega)
              clear c20
              by_cases c21 : (wrap64 (rd l1 1)) = 0
              · rw [if_pos c21] at H
                have c21b0 : ((wrap64 (rd l1 1)) == 0) = true := beq_iff_eq.mpr c21
                have c21b1 : ((wrap64 (rd l1 1)) != 0) = false := bne_eq_false_iff_eq.mpr c21
                clear c21
                simp only [Option.some.injEq, Prod.mk.injEq] at H
                obtain ⟨rfl, rfl, rfl⟩ := H
                try go_wp2
                have n0_ := Aside0.mk (blk_drew BK173.out)
                have n1_ := Aside0.mk (blk_drew BK174.out)
                have n2_ := Aside0.mk (blk_drew BK176.out)
                have n3_ := Aside0.mk (below_drew1 HB.out)
                clear BK173
                clear BK174
                clear BK176
                clear HB
                have BK173 := n0_
                have BK174 := n1_
                have BK176 := n2_
                have HB := n3_
                clear n0_ n1_ n2_ n3_
                have p177 : 0 ≤ (0 : Int) := (by omega)
                have q177 : 0 < (l1.length : Int) := of_decide_eq_true (by first | (with_reducible assumption) | assumption)
                obtain ⟨ad177, e177, hx177_0⟩ := Kd.at_int HR1.out 0 p177 q177
                have hw177_0 := hx177_0
                (try rw [show ((0 : Int)).toNat = 0 from rfl] at hw177_0)
                (try rw [show 0 * 1 = 0 from rfl] at hw177_0)
                (try rw [Addr.add_zero'] at hw177_0)
                cases e177
                have qi177 : (0 < l1.length) = True := eq_true (by omega)
                (try rw [show ((0 : Int)).toNat = 0 from rfl] at hx177_0)
                (try rw [Addr.add_zero'] at hx177_0)
                replace hx177_0 := (HB.out.cell (World.block_lt_of_cell? w _ hx177_0)).trans hx177_0
                replace p177 := eq_true p177
                replace q177 := eq_true q177
                refine start_ (n := 9) (S := fun w' => w'.cell? ⟨gb173, 0, none⟩ = some (.int .i64 a0_0) ∧ w'.cell? ⟨gb173, 1, none⟩ = some (.int .i64 a0_1) ∧ w'.cell? ⟨gb173, 2, none⟩ = some (.int .i64 a0_2) ∧ w'.cell? ⟨gb173, 3, none⟩ = some (.slice A0_3 l0_3.length c0_3) ∧ w'.cell? ⟨gb173, 4, none⟩ = some (.int .i64 a0_4) ∧ w'.cell? ⟨gb173, 5, none⟩ = some (.int .i64 a0_5) ∧ w'.cell? ⟨gb173, 6, none⟩ = some (.int .i64 a0_6) ∧ w'.cell? ad177 = some (.int .u8 (rd l1 0))) (ds := []) #[false, false, false, false, false, false, false, false, false] (by kernel_rfl) rfl rfl ⟨(blk_cell BK173.out 0).trans rfl, (blk_cell BK173.out 1).trans rfl, (blk_cell BK173.out 2).trans rfl, (blk_cell BK173.out 3).trans rfl, (blk_cell BK173.out 4).trans rfl, (blk_cell BK173.out 5).trans rfl, (blk_cell BK173.out 6).trans rfl, ((HB.out.cell (World.block_lt_of_cell? w _ hw177_0)).trans hw177_0)⟩ (fun hHeld => ?_); refine with_tabW pdu_AnswerParse.tab7 pdu_AnswerParse.bits7 (fun HT_ HW_ => ?_)
                generalize w11.drew = w22 at BK173 BK174 BK176 HB hx177_0 hHeld ⊢
                refine pure_ (i := 0) (N := some 22) (v := ?_) (a' := ?_) #[true, false, false, false, false, false, false, false, false] rfl rfl (any_of HT_.out (by kernel_rfl)) (fun _ _ _ h => h) (Or.inl ⟨by rfl, ?_⟩) ?_ ?_
                rotate_left
                · intro w'
                  go_simp
                  with_reducible rfl
                rotate_left
                · simp only [Act.put, List.setIfInBounds_toArray, List.set_cons_zero, List.set_cons_succ, i64_w, i32_w]
                  rfl
                refine pure_ (i := 1) (N := some 23) (v := ?_) (a' := ?_) #[true, true, false, false, false, false, false, false, false] rfl rfl (any_of HT_.out (by kernel_rfl)) (fun _ _ _ h => h) (Or.inl ⟨by rfl, ?_⟩) ?_ ?_
                rotate_left
                · intro w'
                  go_simp
                  with_reducible rfl
                rotate_left
                · simp only [Act.put, List.setIfInBounds_toArray, List.set_cons_zero, List.set_cons_succ, i64_w, i32_w]
                  rfl
                refine pure_ (i := 4) (N := some 26) (v := ?_) (a' := ?_) #[true, true, false, false, true, false, false, false, false] rfl rfl (any_of HT_.out (by kernel_rfl)) (fun _ _ _ h => h) (Or.inl ⟨by rfl, ?_⟩) ?_ ?_
                rotate_left
                · intro w'
                  go_simp
                  with_reducible rfl
                rotate_left
                · simp only [Act.put, List.setIfInBounds_toArray, List.set_cons_zero, List.set_cons_succ, i64_w, i32_w]
                  rfl
                refine take_ (i := 2) (N := some 24) (v := ?_) (a' := ?_) #[true, true, true, false, true, false, false, false, false] rfl rfl (take_ofW HT_.out HW_.out (by kernel_rfl)) (fun _ _ _ h => h) (Or.inl ⟨by rfl, ?_⟩) hHeld ?_ ?_
                rotate_left
                · rintro w' ⟨s0, s1, s2, s3, s4, s5, s6, s7⟩
                  go_simp
                  with_reducible rfl
                rotate_left
                · simp only [Act.put, List.setIfInBounds_toArray, List.set_cons_zero, List.set_cons_succ, i64_w, i32_w]
                  rfl
                refine pure_ (i := 3) (N := some 25) (v := ?_) (a' := ?_) #[true, true, true, true, true, false, false, false, false] rfl rfl (any_of HT_.out (by kernel_rfl)) (fun _ _ _ h => h) (Or.inl ⟨by rfl, ?_⟩) ?_ ?_
                rotate_left
                · intro w'
                  go_simp
                  with_reducible rfl
                rotate_left
                · simp only [Act.put, List.setIfInBounds_toArray, List.set_cons_zero, List.set_cons_succ, i64_w, i32_w]
                  rfl
                refine take_ (i := 5) (N := some 27) (v := ?_) (a' := ?_) #[true, true, true, true, true, true, false, false, false] rfl rfl (take_ofW HT_.out HW_.out (by kernel_rfl)) (fun _ _ _ h => h) (Or.inl ⟨by rfl, ?_⟩) hHeld ?_ ?_
                rotate_left
                · rintro w' ⟨s0, s1, s2, s3, s4, s5, s6, s7⟩
                  go_simp
                  with_reducible rfl
                rotate_left
                · simp only [Act.put, List.setIfInBounds_toArray, List.set_cons_zero, List.set_cons_succ, i64_w, i32_w]
                  rfl
                refine pure_ (i := 6) (N := some 28) (v := ?_) (a' := ?_) #[true, true, true, true, true, true, true, false, false] rfl rfl (any_of HT_.out (by kernel_rfl)) (fun _ _ _ h => h) (Or.inl ⟨by rfl, ?_⟩) ?_ ?_
                rotate_left
                · intro w'
                  go_simp
                  with_reducible rfl
                rotate_left
                · simp only [Act.put, List.setIfInBounds_toArray, List.set_cons_zero, List.set_cons_succ, i64_w, i32_w]
                  rfl
                refine pure_ (i := 7) (N := some 29) (v := ?_) (a' := ?_) #[true, true, true, true, true, true, true, true, false] rfl rfl (any_of HT_.out (by kernel_rfl)) (fun _ _ _ h => h) (Or.inl ⟨by rfl, ?_⟩) ?_ ?_
                rotate_left
                · intro w'
                  go_simp
                  with_reducible rfl
                rotate_left
                · simp only [Act.put, List.setIfInBounds_toArray, List.set_cons_zero, List.set_cons_succ, i64_w, i32_w]
                  rfl
                refine pure_ (i := 8) (N := some 21) (v := ?_) (a' := ?_) #[true, true, true, true, true, true, true, true, true] rfl rfl (any_of HT_.out (by kernel_rfl)) (fun _ _ _ h => h) (Or.inl ⟨by rfl, ?_⟩) ?_ ?_
                rotate_left
                · intro w'
                  go_simp
                  with_reducible rfl
                rotate_left
                · simp only [Act.put, List.setIfInBounds_toArray, List.set_cons_zero, List.set_cons_succ, i64_w, i32_w]
                  rfl
                refine done_ (done_of HT_.out (by kernel_rfl)) ?_
                have p178 : 0 ≤ (1 : Int) := (by omega)
                have q178 : 1 < (l1.length : Int) := of_decide_eq_true (by first | (with_reducible assumption) | assumption)
                obtain ⟨ad178, e178, hx178_0⟩ := Kd.at_int HR1.out 1 p178 q178
                obtain rfl : ad177 = ad178 := (by injection e178)
                (try simp only [show (1 : Int).toNat = 1 from rfl, Nat.reduceMul, Nat.reduceEqDiff, Go.Addr.add, ↓reduceIte] at hx178_0)
                have qi178 : (1 < l1.length) = True := eq_true (by omega)
                (try rw [show ((1 : Int)).toNat = 1 from rfl] at hx178_0)
                replace hx178_0 := (HB.out.cell (World.block_lt_of_cell? w _ hx178_0)).trans hx178_0
                replace p178 := eq_true p178
                replace q178 := eq_true q178
                have hnb23 := NB176_173.out
                have hnc23 := NB173_176.out
                have hnb24 := NB176_174.out
                have hnc24 := NB174_176.out
                have hcz25_0 : w22.cell? ⟨gb176, 0, none⟩ = some (.slice none 0 0) := (blk_cell BK176.out 0).trans rfl
                have hcz25_1 : w22.cell? ⟨gb176, 1, none⟩ = some (.int .i64 0) := (blk_cell BK176.out 1).trans rfl
                have hfz25_0 := blk_frozen BK176.out 0
                have hfz25_1 := blk_frozen BK176.out 1
                have hnb26 := NB174_173.out
                have hnc26 := NB173_174.out
                have hcz27_0 : w22.cell? ⟨gb174, 0, none⟩ = some (.slice none 0 0) := (blk_cell BK174.out 0).trans rfl
                have hcz27_1 : w22.cell? ⟨gb174, 1, none⟩ = some (.int .i64 0) := (blk_cell BK174.out 1).trans rfl
                have hfz27_0 := blk_frozen BK174.out 0
                have hfz27_1 := blk_frozen BK174.out 1
                try go_wp2
                refine bodyPost_ret (results_ct rfl _ _ gb174 46 #[.slice none 0 0, .int .i64 (wrap64 (rd l1 1))] (0, 0) _ rfl (by (with_reducible repeat (first | refine blk_drewN ?_ _ | refine blk_drew ?_ | refine blk_alloc ?_ _)); refine blk_put (cs := #[.slice none 0 0, .int .i64 0]) ?_ 1 _ rfl; (with_reducible repeat (first | refine blk_drewN ?_ _ | refine blk_drew ?_ | refine blk_alloc ?_ _)); refine blk_put (cs := #[.slice none 0 0, .int .i64 0]) ?_ 0 _ rfl; (with_reducible repeat (first | refine blk_drewN ?_ _ | refine blk_drew ?_ | refine blk_alloc ?_ _)); refine blk_far ?_ NB174_176.out _; (with_reducible repeat (first | refine blk_drewN ?_ _ | refine blk_drew ?_ | refine blk_alloc ?_ _)); exact BK174.out) Try.underlying46 rfl (by kernel_rfl)) rfl ?_
                exact ⟨_, by first | rfl | (simp [errW_none, errW_some] <;> rfl) | (simp [*, errW_none, errW_some] <;> rfl), by first | exact Kd.R_nil _ _ _ _ _ | exact Kd.N_nil _ _ _ _ _ | exact Kd.V_nil _ _ _ _ _ | exact Kd.Q_nil _ _ _ _ _ | exact Kd.S_nil _ _ _ _ _, by repeat (first | (with_reducible first | exact HB.out | apply below_alloc | apply pw_below_drewN | apply below_drew1 | refine below_set ?_ GE173.out | refine below_set ?_ GE174.out | refine below_set ?_ GE176.out) | exact HB.out)⟩
              · rw [if_neg c21] at H
                have c21b0 : ((wrap64 (rd l1 1)) == 0) = false := beq_eq_false_iff_ne.mpr c21
                have c21b1 : ((wrap64 (rd l1 1)) != 0) = true := bne_iff_ne.mpr c21
                have H' := Aside0.mk H
                clear H
                try go_wp2
                have n0_ := Aside0.mk (blk_drew BK173.out)
                have n1_ := Aside0.mk (blk_drew BK174.out)
                have n2_ := Aside0.mk (blk_drew BK176.out)
                have n3_ := Aside0.mk (below_drew1 HB.out)
                clear BK173
                clear BK174
                clear BK176
                clear HB
                have BK173 := n0_
                have BK174 := n1_
                have BK176 := n2_
                have HB := n3_
                clear n0_ n1_ n2_ n3_
                have p177 : 0 ≤ (0 : Int) := (by omega)
                have q177 : 0 < (l1.length : Int) := of_decide_eq_true (by first | (with_reducible assumption) | assumption)
                obtain ⟨ad177, e177, hx177_0⟩ := Kd.at_int HR1.out 0 p177 q177
                have hw177_0 := hx177_0
                (try rw [show ((0 : Int)).toNat = 0 from rfl] at hw177_0)
                (try rw [show 0 * 1 = 0 from rfl] at hw177_0)
                (try rw [Addr.add_zero'] at hw177_0)
                cases e177
                have qi177 : (0 < l1.length) = True := eq_true (by omega)
                (try rw [show ((0 : Int)).toNat = 0 from rfl] at hx177_0)
                (try rw [Addr.add_zero'] at hx177_0)
                replace hx177_0 := (HB.out.cell (World.block_lt_of_cell? w _ hx177_0)).trans hx177_0
                replace p177 := eq_true p177
                replace q177 := eq_true q177
                refine start_ (n := 9) (S := fun w' => w'.cell? ⟨gb173, 0, none⟩ = some (.int .i64 a0_0) ∧ w'.cell? ⟨gb173, 1, none⟩ = some (.int .i64 a0_1) ∧ w'.cell? ⟨gb173, 2, none⟩ = some (.int .i64 a0_2) ∧ w'.cell? ⟨gb173, 3, none⟩ = some (.slice A0_3 l0_3.length c0_3) ∧ w'.cell? ⟨gb173, 4, none⟩ = some (.int .i64 a0_4) ∧ w'.cell? ⟨gb173, 5, none⟩ = some (.int .i64 a0_5) ∧ w'.cell? ⟨gb173, 6, none⟩ = some (.int .i64 a0_6) ∧ w'.cell? ad177 = some (.int .u8 (rd l1 0))) (ds := []) #[false, false, false, false, false, false, false, false, false] (by kernel_rfl) rfl rfl ⟨(blk_cell BK173.out 0).trans rfl, (blk_cell BK173.out 1).trans rfl, (blk_cell BK173.out 2).trans rfl, (blk_cell BK173.out 3).trans rfl, (blk_cell BK173.out 4).trans rfl, (blk_cell BK173.out 5).trans rfl, (blk_cell BK173.out 6).trans rfl, ((HB.out.cell (World.block_lt_of_cell? w _ hw177_0)).trans hw177_0)⟩ (fun hHeld => ?_); refine with_tabW pdu_AnswerParse.tab7 pdu_AnswerParse.bits7 (fun HT_ HW_ => ?_)
                generalize w11.drew = w28 at BK173 BK174 BK176 HB hx177_0 hHeld ⊢
                refine pure_ (i := 0) (N := some 22) (v := ?_) (a' := ?_) #[true, false, false, false, false, false, false, false, false] rfl rfl (any_of HT_.out (by kernel_rfl)) (fun _ _ _ h => h) (Or.inl ⟨by rfl, ?_⟩) ?_ ?_
                rotate_left
                · intro w'
                  go_simp
                  with_reducible rfl
                rotate_left
                · simp only [Act.put, List.setIfInBounds_toArray, List.set_cons_zero, List.set_cons_succ, i64_w, i32_w]
                  rfl
                refine pure_ (i := 1) (N := some 23) (v := ?_) (a' := ?_) #[true, true, false, false, false, false, false, false, false] rfl rfl (any_of HT_.out (by kernel_rfl)) (fun _ _ _ h => h) (Or.inl ⟨by rfl, ?_⟩) ?_ ?_
                rotate_left
                · intro w'
                  go_simp
                  with_reducible rfl
                rotate_left
                · simp only [Act.put, List.setIfInBounds_toArray, List.set_cons_zero, List.set_cons_succ, i64_w, i32_w]
                  rfl
                refine pure_ (i := 4) (N := some 26) (v := ?_) (a' := ?_) #[true, true, false, false, true, false, false, false, false] rfl rfl (any_of HT_.out (by kernel_rfl)) (fun _ _ _ h => h) (Or.inl ⟨by rfl, ?_⟩) ?_ ?_
                rotate_left
                · intro w'
                  go_simp
                  with_reducible rfl
                rotate_left
                · simp only [Act.put, List.setIfInBounds_toArray, List.set_cons_zero, List.set_cons_succ, i64_w, i32_w]
                  rfl
                refine take_ (i := 2) (N := some 24) (v := ?_) (a' := ?_) #[true, true, true, false, true, false, false, false, false] rfl rfl (take_ofW HT_.out HW_.out (by kernel_rfl)) (fun _ _ _ h => h) (Or.inl ⟨by rfl, ?_⟩) hHeld ?_ ?_
                rotate_left
                · rintro w' ⟨s0, s1, s2, s3, s4, s5, s6, s7⟩
                  go_simp
                  with_reducible rfl
                rotate_left
                · simp only [Act.put, List.setIfInBounds_toArray, List.set_cons_zero, List.set_cons_succ, i64_w, i32_w]
                  rfl
                refine pure_ (i := 3) (N := some 25) (v := ?_) (a' := ?_) #[true, true, true, true, true, false, false, false, false] rfl rfl (any_of HT_.out (by kernel_rfl)) (fun _ _ _ h => h) (Or.inl ⟨by rfl, ?_⟩) ?_ ?_
                rotate_left
                · intro w'
                  go_simp
                  with_reducible rfl
                rotate_left
                · simp only [Act.put, List.setIfInBounds_toArray, List.set_cons_zero, List.set_cons_succ, i64_w, i32_w]
                  rfl
                refine take_ (i := 5) (N := some 27) (v := ?_) (a' := ?_) #[true, true, true, true, true, true, false, false, false] rfl rfl (take_ofW HT_.out HW_.out (by kernel_rfl)) (fun _ _ _ h => h) (Or.inl ⟨by rfl, ?_⟩) hHeld ?_ ?_
                rotate_left
                · rintro w' ⟨s0, s1, s2, s3, s4, s5, s6, s7⟩
                  go_simp
                  with_reducible rfl
                rotate_left
                · simp only [Act.put, List.setIfInBounds_toArray, List.set_cons_zero, List.set_cons_succ, i64_w, i32_w]
                  rfl
                refine pure_ (i := 6) (N := some 28) (v := ?_) (a' := ?_) #[true, true, true, true, true, true, true, false, false] rfl rfl (any_of HT_.out (by kernel_rfl)) (fun _ _ _ h => h) (Or.inl ⟨by rfl, ?_⟩) ?_ ?_
                rotate_left
                · intro w'
                  go_simp
                  with_reducible rfl
                rotate_left
                · simp only [Act.put, List.setIfInBounds_toArray, List.set_cons_zero, List.set_cons_succ, i64_w, i32_w]
                  rfl
                refine pure_ (i := 7) (N := some 29) (v := ?_) (a' := ?_) #[true, true, true, true, true, true, true, true, false] rfl rfl (any_of HT_.out (by kernel_rfl)) (fun _ _ _ h => h) (Or.inl ⟨by rfl, ?_⟩) ?_ ?_
                rotate_left
                · intro w'
                  go_simp
                  with_reducible rfl
                rotate_left
                · simp only [Act.put, List.setIfInBounds_toArray, List.set_cons_zero, List.set_cons_succ, i64_w, i32_w]
                  rfl
                refine pure_ (i := 8) (N := some 21) (v := ?_) (a' := ?_) #[true, true, true, true, true, true, true, true, true] rfl rfl (any_of HT_.out (by kernel_rfl)) (fun _ _ _ h => h) (Or.inl ⟨by rfl, ?_⟩) ?_ ?_
                rotate_left
                · intro w'
                  go_simp
                  with_reducible rfl
                rotate_left
                · simp only [Act.put, List.setIfInBounds_toArray, List.set_cons_zero, List.set_cons_succ, i64_w, i32_w]
                  rfl
                refine done_ (done_of HT_.out (by kernel_rfl)) ?_
                have p178 : 0 ≤ (1 : Int) := (by omega)
                have q178 : 1 < (l1.length : Int) := of_decide_eq_true (by first | (with_reducible assumption) | assumption)
                obtain ⟨ad178, e178, hx178_0⟩ := Kd.at_int HR1.out 1 p178 q178
                obtain rfl : ad177 = ad178 := (by injection e178)
                (try simp only [show (1 : Int).toNat = 1 from rfl, Nat.reduceMul, Nat.reduceEqDiff, Go.Addr.add, ↓reduceIte] at hx178_0)
                have qi178 : (1 < l1.length) = True := eq_true (by omega)
                (try rw [show ((1 : Int)).toNat = 1 from rfl] at hx178_0)
                replace hx178_0 := (HB.out.cell (World.block_lt_of_cell? w _ hx178_0)).trans hx178_0
                replace p178 := eq_true p178
                replace q178 := eq_true q178
                have hnb29 := NB176_173.out
                have hnc29 := NB173_176.out
                have hnb30 := NB176_174.out
                have hnc30 := NB174_176.out
                have hcz31_0 : w28.cell? ⟨gb176, 0, none⟩ = some (.slice none 0 0) := (blk_cell BK176.out 0).trans rfl
                have hcz31_1 : w28.cell? ⟨gb176, 1, none⟩ = some (.int .i64 0) := (blk_cell BK176.out 1).trans rfl
                have hfz31_0 := blk_frozen BK176.out 0
                have hfz31_1 := blk_frozen BK176.out 1
                try go_wp2
                go_meet
                case rel => exact ⟨_, (0), (([] : List Int)), (wrap64 (rd l1 1)), (.slice none 0 0), H', ⟨by first | omega | exact Nat.le_refl _⟩, ⟨by first | exact Kd.R_nil _ _ _ _ _ | exact Kd.N_nil _ _ _ _ _ | exact Kd.V_nil _ _ _ _ _ | exact Kd.Q_nil _ _ _ _ _ | exact Kd.S_nil _ _ _ _ _⟩, ⟨by (with_reducible repeat (first | refine blk_drewN ?_ _ | refine blk_drew ?_ | refine blk_alloc ?_ _)); refine blk_far ?_ NB173_176.out _; (with_reducible repeat (first | refine blk_drewN ?_ _ | refine blk_drew ?_ | refine blk_alloc ?_ _)); exact BK173.out⟩, ⟨by (with_reducible repeat (first | refine blk_drewN ?_ _ | refine blk_drew ?_ | refine blk_alloc ?_ _)); refine blk_far ?_ NB174_176.out _; (with_reducible repeat (first | refine blk_drewN ?_ _ | refine blk_drew ?_ | refine blk_alloc ?_ _)); exact BK174.out⟩, ⟨by (with_reducible repeat (first | refine blk_drewN ?_ _ | refine blk_drew ?_ | refine blk_alloc ?_ _)); refine blk_put (cs := #[.slice none 0 0, .int .i64 0]) ?_ 1 _ rfl; (with_reducible repeat (first | refine blk_drewN ?_ _ | refine blk_drew ?_ | refine blk_alloc ?_ _)); exact BK176.out⟩, ⟨by repeat (first | (with_reducible first | exact HB.out | apply below_alloc | apply pw_below_drewN | apply below_drew1 | refine below_set ?_ GE173.out | refine below_set ?_ GE174.out | refine below_set ?_ GE176.out) | exact HB.out)⟩⟩
            · rw [if_neg c20] at H
              exact absurd H (by simp)
          · rw [if_neg c19] at H
            have c19b0 : ((wrap64 (rd l1 0)) == (Go.bits .or .i64 a0_0 128)) = false := beq_eq_false_iff_ne.mpr c19
            have c19b1 : ((wrap64 (rd l1 0)) != (Go.bits .or .i64 a0_0 128)) = true := bne_iff_ne.mpr c19
            have HC32 := Aside0.mk H
            clear H
            try go_wp2
            have n0_ := Aside0.mk (blk_drew BK173.out)
            have n1_ := Aside0.mk (blk_drew BK174.out)
            have n2_ := Aside0.mk (blk_drew BK176.out)
            have n3_ := Aside0.mk (below_drew1 HB.out)
            clear BK173
            clear BK174
            clear BK176
            clear HB
            have BK173 := n0_
            have BK174 := n1_
            have BK176 := n2_
            have HB := n3_
            clear n0_ n1_ n2_ n3_
            have p177 : 0 ≤ (0 : Int) := (by omega)
            have q177 : 0 < (l1.length : Int) := of_decide_eq_true (by first | (with_reducible assumption) | assumption)
            obtain ⟨ad177, e177, hx177_0⟩ := Kd.at_int HR1.out 0 p177 q177
            have hw177_0 := hx177_0
            (try rw [show ((0 : Int)).toNat = 0 from rfl] at hw177_0)
            (try rw [show 0 * 1 = 0 from rfl] at hw177_0)
            (try rw [Addr.add_zero'] at hw177_0)
            cases e177
            have qi177 : (0 < l1.length) = True := eq_true (by omega)
            (try rw [show ((0 : Int)).toNat = 0 from rfl] at hx177_0)
            (try rw [Addr.add_zero'] at hx177_0)
            replace hx177_0 := (HB.out.cell (World.block_lt_of_cell? w _ hx177_0)).trans hx177_0
            replace p177 := eq_true p177
            replace q177 := eq_true q177
            refine start_ (n := 9) (S := fun w' => w'.cell? ⟨gb173, 0, none⟩ = some (.int .i64 a0_0) ∧ w'.cell? ⟨gb173, 1, none⟩ = some (.int .i64 a0_1) ∧ w'.cell? ⟨gb173, 2, none⟩ = some (.int .i64 a0_2) ∧ w'.cell? ⟨gb173, 3, none⟩ = some (.slice A0_3 l0_3.length c0_3) ∧ w'.cell? ⟨gb173, 4, none⟩ = some (.int .i64 a0_4) ∧ w'.cell? ⟨gb173, 5, none⟩ = some (.int .i64 a0_5) ∧ w'.cell? ⟨gb173, 6, none⟩ = some (.int .i64 a0_6) ∧ w'.cell? ad177 = some (.int .u8 (rd l1 0))) (ds := []) #[false, false, false, false, false, false, false, false, false] (by kernel_rfl) rfl rfl ⟨(blk_cell BK173.out 0).trans rfl, (blk_cell BK173.out 1).trans rfl, (blk_cell BK173.out 2).trans rfl, (blk_cell BK173.out 3).trans rfl, (blk_cell BK173.out 4).trans rfl, (blk_cell BK173.out 5).trans rfl, (blk_cell BK173.out 6).trans rfl, ((HB.out.cell (World.block_lt_of_cell? w _ hw177_0)).trans hw177_0)⟩ (fun hHeld => ?_); refine with_tabW pdu_AnswerParse.tab7 pdu_AnswerParse.bits7 (fun HT_ HW_ => ?_)
            generalize w11.drew = w33 at BK173 BK174 BK176 HB hx177_0 hHeld ⊢
            refine pure_ (i := 0) (N := some 22) (v := ?_) (a' := ?_) #[true, false, false, false, false, false, false, false, false] rfl rfl (any_of HT_.out (by kernel_rfl)) (fun _ _ _ h => h) (Or.inl ⟨by rfl, ?_⟩) ?_ ?_
            rotate_left
            · intro w'
              go_simp
              with_reducible rfl
            rotate_left
            · simp only [Act.put, List.setIfInBounds_toArray, List.set_cons_zero, List.set_cons_succ, i64_w, i32_w]
              rfl
            refine pure_ (i := 1) (N := some 23) (v := ?_) (a' := ?_) #[true, true, false, false, false, false, false, false, false] rfl rfl (any_of HT_.out (by kernel_rfl)) (fun _ _ _ h => h) (Or.inl ⟨by rfl, ?_⟩) ?_ ?_
            rotate_left
            · intro w'
              go_simp
              with_reducible rfl
            rotate_left
            · simp only [Act.put, List.setIfInBounds_toArray, List.set_cons_zero, List.set_cons_succ, i64_w, i32_w]
              rfl
            refine pure_ (i := 4) (N := some 26) (v := ?_) (a' := ?_) #[true, true, false, false, true, false, false, false, false] rfl rfl (any_of HT_.out (by kernel_rfl)) (fun _ _ _ h => h) (Or.inl ⟨by rfl, ?_⟩) ?_ ?_
            rotate_left
            · intro w'
              go_simp
              with_reducible rfl
            rotate_left
            · simp only [Act.put, List.setIfInBounds_toArray, List.set_cons_zero, List.set_cons_succ, i64_w, i32_w]
              rfl
            refine take_ (i := 2) (N := some 24) (v := ?_) (a' := ?_) #[true, true, true, false, true, false, false, false, false] rfl rfl (take_ofW HT_.out HW_.out (by kernel_rfl)) (fun _ _ _ h => h) (Or.inl ⟨by rfl, ?_⟩) hHeld ?_ ?_
            rotate_left
            · rintro w' ⟨s0, s1, s2, s3, s4, s5, s6, s7⟩
              go_simp
              with_reducible rfl
            rotate_left
            · simp only [Act.put, List.setIfInBounds_toArray, List.set_cons_zero, List.set_cons_succ, i64_w, i32_w]
              rfl
            refine pure_ (i := 3) (N := some 25) (v := ?_) (a' := ?_) #[true, true, true, true, true, false, false, false, false] rfl rfl (any_of HT_.out (by kernel_rfl)) (fun _ _ _ h => h) (Or.inl ⟨by rfl, ?_⟩) ?_ ?_
            rotate_left
            · intro w'
              go_simp
              with_reducible rfl
            rotate_left
            · simp only [Act.put, List.setIfInBounds_toArray, List.set_cons_zero, List.set_cons_succ, i64_w, i32_w]
              rfl
            refine take_ (i := 5) (N := some 27) (v := ?_) (a' := ?_) #[true, true, true, true, true, true, false, false, false] rfl rfl (take_ofW HT_.out HW_.out (by kernel_rfl)) (fun _ _ _ h => h) (Or.inl ⟨by rfl, ?_⟩) hHeld ?_ ?_
            rotate_left
            · rintro w' ⟨s0, s1, s2, s3, s4, s5, s6, s7⟩
              go_simp
              with_reducible rfl
            rotate_left
            · simp only [Act.put, List.setIfInBounds_toArray, List.set_cons_zero, List.set_cons_succ, i64_w, i32_w]
              rfl
            refine pure_ (i := 6) (N := some 28) (v := ?_) (a' := ?_) #[true, true, true, true, true, true, true, false, false] rfl rfl (any_of HT_.out (by kernel_rfl)) (fun _ _ _ h => h) (Or.inl ⟨by rfl, ?_⟩) ?_ ?_
            rotate_left
            · intro w'
              go_simp
              with_reducible rfl
            rotate_left
            · simp only [Act.put, List.setIfInBounds_toArray, List.set_cons_zero, List.set_cons_succ, i64_w, i32_w]
              rfl
            refine pure_ (i := 7) (N := some 29) (v := ?_) (a' := ?_) #[true, true, true, true, true, true, true, true, false] rfl rfl (any_of HT_.out (by kernel_rfl)) (fun _ _ _ h => h) (Or.inl ⟨by rfl, ?_⟩) ?_ ?_
            rotate_left
            · intro w'
              go_simp
              with_reducible rfl
            rotate_left
            · simp only [Act.put, List.setIfInBounds_toArray, List.set_cons_zero, List.set_cons_succ, i64_w, i32_w]
              rfl
            refine pure_ (i := 8) (N := some 21) (v := ?_) (a' := ?_) #[true, true, true, true, true, true, true, true, true] rfl rfl (any_of HT_.out (by kernel_rfl)) (fun _ _ _ h => h) (Or.inl ⟨by rfl, ?_⟩) ?_ ?_
            rotate_left
            · intro w'
              go_simp
              with_reducible rfl
            rotate_left
            · simp only [Act.put, List.setIfInBounds_toArray, List.set_cons_zero, List.set_cons_succ, i64_w, i32_w]
              rfl
            refine done_ (done_of HT_.out (by kernel_rfl)) ?_
            go_upto_region 11 with (fail)
            go_cut [39] (fun v39 wc => ∃ (kq : Nat) (x39_31 : Bool), v39 = .bool x39_31 ∧ Aside0 (pdu_AnswerParse.j0 kq l1 x39_31 a0_0 a0_1 a0_2 l0_3 a0_4 a0_5 a0_6 0 = some (r1, r2, r3)) ∧ Aside0 (kq ≤ k) ∧ Aside0 (wc.heap[gb173]? = some (.cells #[.int .i64 a0_0, .int .i64 a0_1, .int .i64 a0_2, (.slice A0_3 l0_3.length c0_3), .int .i64 a0_4, .int .i64 a0_5, .int .i64 a0_6] 31 (0, 0))) ∧ Aside0 (wc.heap[gb174]? = some (.cells #[(.slice none 0 0), .int .i64 0] 46 (0, 0))) ∧ Aside0 (wc.heap[gb176]? = some (.cells #[(.slice none 0 0), .int .i64 0] 46 (0, 0))) ∧ Aside0 (Below w.heap.size w wc))
            case first =>
              have H := HC32.out
              clear HC32
              by_cases c34 : a0_0 = 1
              · rw [if_pos c34] at H
                have c34b0 : (a0_0 == 1) = true := beq_iff_eq.mpr c34
                have c34b1 : (a0_0 != 1) = false := bne_eq_false_iff_eq.mpr c34
                clear c34
                (first | rw [c34b0] | (simp only [i64_w, i32_w]; rw [c34b0]) | skip)
                have H' := Aside0.mk H
                clear H
                have hnb35 := NB173_174.out
                have hnc35 := NB174_173.out
                have hnb36 := NB173_176.out
                have hnc36 := NB176_173.out
                have hcz37_0 : w33.cell? ⟨gb173, 0, none⟩ = some (.int .i64 a0_0) := (blk_cell BK173.out 0).trans rfl
                have hcz37_1 : w33.cell? ⟨gb173, 1, none⟩ = some (.int .i64 a0_1) := (blk_cell BK173.out 1).trans rfl
                have hcz37_2 : w33.cell? ⟨gb173, 2, none⟩ = some (.int .i64 a0_2) := (blk_cell BK173.out 2).trans rfl
                have hcz37_3 : w33.cell? ⟨gb173, 3, none⟩ = some (.slice A0_3 l0_3.length c0_3) := (blk_cell BK173.out 3).trans rfl
                have hcz37_4 : w33.cell? ⟨gb173, 4, none⟩ = some (.int .i64 a0_4) := (blk_cell BK173.out 4).trans rfl
                have hcz37_5 : w33.cell? ⟨gb173, 5, none⟩ = some (.int .i64 a0_5) := (blk_cell BK173.out 5).trans rfl
                have hcz37_6 : w33.cell? ⟨gb173, 6, none⟩ = some (.int .i64 a0_6) := (blk_cell BK173.out 6).trans rfl
                have hfz37_0 := blk_frozen BK173.out 0
                have hfz37_1 := blk_frozen BK173.out 1
                have hfz37_2 := blk_frozen BK173.out 2
                have hfz37_3 := blk_frozen BK173.out 3
                have hfz37_4 := blk_frozen BK173.out 4
                have hfz37_5 := blk_frozen BK173.out 5
                have hfz37_6 := blk_frozen BK173.out 6
                go_wp2
                go_meet
                case rel => exact ⟨_, (true), (by first | rfl | (simp; done) | (simp [*]; done)), H', ⟨by first | omega | exact Nat.le_refl _⟩, ⟨by (with_reducible repeat (first | refine blk_drewN ?_ _ | refine blk_drew ?_ | refine blk_alloc ?_ _)); exact BK173.out⟩, ⟨by (with_reducible repeat (first | refine blk_drewN ?_ _ | refine blk_drew ?_ | refine blk_alloc ?_ _)); exact BK174.out⟩, ⟨by (with_reducible repeat (first | refine blk_drewN ?_ _ | refine blk_drew ?_ | refine blk_alloc ?_ _)); exact BK176.out⟩, ⟨by repeat (first | (with_reducible first | exact HB.out | apply below_alloc | apply pw_below_drewN | apply below_drew1 | refine below_set ?_ GE173.out | refine below_set ?_ GE174.out | refine below_set ?_ GE176.out) | exact HB.out)⟩⟩
              · rw [if_neg c34] at H
                have c34b0 : (a0_0 == 1) = false := beq_eq_false_iff_ne.mpr c34
                have c34b1 : (a0_0 != 1) = true := bne_iff_ne.mpr c34
                (first | rw [c34b0] | (simp only [i64_w, i32_w]; rw [c34b0]) | skip)
                have H' := Aside0.mk H
                clear H
                have hnb38 := NB173_174.out
                have hnc38 := NB174_173.out
                have hnb39 := NB173_176.out
                have hnc39 := NB176_173.out
                have hcz40_0 : w33.cell? ⟨gb173, 0, none⟩ = some (.int .i64 a0_0) := (blk_cell BK173.out 0).trans rfl
                have hcz40_1 : w33.cell? ⟨gb173, 1, none⟩ = some (.int .i64 a0_1) := (blk_cell BK173.out 1).trans rfl
                have hcz40_2 : w33.cell? ⟨gb173, 2, none⟩ = some (.int .i64 a0_2) := (blk_cell BK173.out 2).trans rfl
                have hcz40_3 : w33.cell? ⟨gb173, 3, none⟩ = some (.slice A0_3 l0_3.length c0_3) := (blk_cell BK173.out 3).trans rfl
                have hcz40_4 : w33.cell? ⟨gb173, 4, none⟩ = some (.int .i64 a0_4) := (blk_cell BK173.out 4).trans rfl
                have hcz40_5 : w33.cell? ⟨gb173, 5, none⟩ = some (.int .i64 a0_5) := (blk_cell BK173.out 5).trans rfl
                have hcz40_6 : w33.cell? ⟨gb173, 6, none⟩ = some (.int .i64 a0_6) := (blk_cell BK173.out 6).trans rfl
                have hfz40_0 := blk_frozen BK173.out 0
                have hfz40_1 := blk_frozen BK173.out 1
                have hfz40_2 := blk_frozen BK173.out 2
                have hfz40_3 := blk_frozen BK173.out 3
                have hfz40_4 := blk_frozen BK173.out 4
                have hfz40_5 := blk_frozen BK173.out 5
                have hfz40_6 := blk_frozen BK173.out 6
                go_wp2
                go_meet
                case rel => exact ⟨_, ((a0_0 == 2)), (by first | rfl | (simp; done) | (simp [*]; done)), H', ⟨by first | omega | exact Nat.le_refl _⟩, ⟨by (with_reducible repeat (first | refine blk_drewN ?_ _ | refine blk_drew ?_ | refine blk_alloc ?_ _)); exact BK173.out⟩, ⟨by (with_reducible repeat (first | refine blk_drewN ?_ _ | refine blk_drew ?_ | refine blk_alloc ?_ _)); exact BK174.out⟩, ⟨by (with_reducible repeat (first | refine blk_drewN ?_ _ | refine blk_drew ?_ | refine blk_alloc ?_ _)); exact BK176.out⟩, ⟨by repeat (first | (with_reducible first | exact HB.out | apply below_alloc | apply pw_below_drewN | apply below_drew1 | refine below_set ?_ GE173.out | refine below_set ?_ GE174.out | refine below_set ?_ GE176.out) | exact HB.out)⟩⟩
            case rest =>
              clear HC32
              try clear c1
              try clear p1
              try clear q1
              try clear hx1
              try clear qi1
              try clear c2
              try clear p2
              try clear c3
              try clear c4
              try clear c4b0
              try clear c4b1
              try clear p6
              try clear c8
              try clear c12
              try clear c12b0
              try clear c12b1
              try clear c13
              try clear c14
              try clear c16
              try clear p17
              try clear q17
              try clear hx17
              try clear qi17
              try clear c18
              try clear c18b0
              try clear c18b1
              try clear c19
              try clear c19b0
              try clear c19b1
              try clear c20
              try clear c20b0
              try clear c20b1
              try clear c21
              try clear c21b0
              try clear c21b1
              try clear c23
              try clear c24
              try clear c26
              try clear c29
              try clear c30
              try clear c34
              try clear c34b0
              try clear c34b1
              try clear c35
              try clear c36
              try clear c38
              try clear c39
              try clear hcz15_0
              try clear hcz15_1
              try clear hcz17_0
              try clear hcz17_1
              try clear hcz25_0
              try clear hcz25_1
              try clear hcz27_0
              try clear hcz27_1
              try clear hcz31_0
              try clear hcz31_1
              try clear hcz37_0
              try clear hcz37_1
              try clear hcz37_2
              try clear hcz37_3
              try clear hcz37_4
              try clear hcz37_5
              try clear hcz37_6
              try clear hcz40_0
              try clear hcz40_1
              try clear hcz40_2
              try clear hcz40_3
              try clear hcz40_4
              try clear hcz40_5
              try clear hcz40_6
              try clear hcz9_0
              try clear hcz9_1
              try clear hcz9_2
              try clear hcz9_3
              try clear hcz9_4
              try clear hcz9_5
              try clear hcz9_6
              try clear hfz15_0
              try clear hfz15_1
              try clear hfz17_0
              try clear hfz17_1
              try clear hfz25_0
              try clear hfz25_1
              try clear hfz27_0
              try clear hfz27_1
              try clear hfz31_0
              try clear hfz31_1
              try clear hfz37_0
              try clear hfz37_1
              try clear hfz37_2
              try clear hfz37_3
              try clear hfz37_4
              try clear hfz37_5
              try clear hfz37_6
              try clear hfz40_0
              try clear hfz40_1
              try clear hfz40_2
              try clear hfz40_3
              try clear hfz40_4
              try clear hfz40_5
              try clear hfz40_6
              try clear hfz9_0
              try clear hfz9_1
              try clear hfz9_2
              try clear hfz9_3
              try clear hfz9_4
              try clear hfz9_5
              try clear hfz9_6
              try clear hx177_0
              try clear hx178_0
              try clear p177
              try clear p178
              try clear q177
              try clear q178
              obtain ⟨kq, x39_31, rfl, HA, HJ31, BK173, BK174, BK176, HB⟩ := hcut
              cases kq with
              | zero => exact absurd HA.out (by simp [pdu_AnswerParse.j0])
              | succ kj31 =>
                have H := HA.out
                clear HA
                simp only [pdu_AnswerParse.j0] at H
                by_cases c41 : x39_31 = true
                · subst c41
                  have H1 : (if 2 ≤ (l1.length : Int) then ((wire_Unpack.f kj31 (l1.drop 2) a0_2).bind fun bt180 => (pdu_AnswerParse.j1 kj31 l1 a0_0 a0_1 a0_2 l0_3 a0_4 a0_5 a0_6 bt180.1 0)) else (none)) = some (r1, r2, r3) := by rw [if_pos rfl] at H; exact H
                  clear H
                  have H := H1
                  clear H1
                  by_cases c42 : 2 ≤ (l1.length : Int)
                  · rw [if_pos c42] at H
                    have c42b0 := eq_true c42
                    have c42b1 : decide (2 ≤ (l1.length : Int)) = true := decide_eq_true c42
                    clear c42
                    replace H := Option.bind_eq_some_iff.mp H
                    obtain ⟨⟨t180, t181⟩, A430, H⟩ := H
                    replace H : (pdu_AnswerParse.j1 kj31 l1 a0_0 a0_1 a0_2 l0_3 a0_4 a0_5 a0_6 t180 0) = some (r1, r2, r3) := H
                    have A43 := Aside0.mk A430
                    clear A430
                    have H' := Aside0.mk H
                    clear H
                    try go_wp2
                    have n0_ := Aside0.mk (blk_drew BK173.out)
                    have n1_ := Aside0.mk (blk_drew BK174.out)
                    have n2_ := Aside0.mk (blk_drew BK176.out)
                    have n3_ := Aside0.mk (below_drew1 HB.out)
                    clear BK173
                    clear BK174
                    clear BK176
                    clear HB
                    have BK173 := n0_
                    have BK174 := n1_
                    have BK176 := n2_
                    have HB := n3_
                    clear n0_ n1_ n2_ n3_
                    obtain ⟨i045, hi045, _, hsz45, _⟩ := info_parts info5
                    obtain ⟨A45, hcut45, hA45, hC45⟩ := print_drop_of (P := Try.prog) (Value.int .u8) 0 43 5 .i64 Try.underlying43 hi045 hsz45 (some ad177) c1 l1 2 (by omega) (of_decide_eq_true (by first | (with_reducible assumption) | assumption)) HC1.out
                    have HR179 := Aside0.mk (Kd.C_of_reads (h1 := fun _ => rfl) (hA45 _ (Kd.reads_of_C HR1.out)))
                    have HC179 := Aside0.mk hC45
                    clear hA45 hC45 hi045 hsz45
                    refine start_ (n := 10) (S := fun w' => w'.cell? ⟨gb173, 0, none⟩ = some (.int .i64 a0_0) ∧ w'.cell? ⟨gb173, 1, none⟩ = some (.int .i64 a0_1) ∧ w'.cell? ⟨gb173, 2, none⟩ = some (.int .i64 a0_2) ∧ w'.cell? ⟨gb173, 3, none⟩ = some (.slice A0_3 l0_3.length c0_3) ∧ w'.cell? ⟨gb173, 4, none⟩ = some (.int .i64 a0_4) ∧ w'.cell? ⟨gb173, 5, none⟩ = some (.int .i64 a0_5) ∧ w'.cell? ⟨gb173, 6, none⟩ = some (.int .i64 a0_6)) (ds := []) #[false, false, false, false, false, false, false, false, false, false] (by kernel_rfl) rfl rfl ⟨(blk_cell BK173.out 0).trans rfl, (blk_cell BK173.out 1).trans rfl, (blk_cell BK173.out 2).trans rfl, (blk_cell BK173.out 3).trans rfl, (blk_cell BK173.out 4).trans rfl, (blk_cell BK173.out 5).trans rfl, (blk_cell BK173.out 6).trans rfl⟩ (fun hHeld => ?_); refine with_tabW pdu_AnswerParse.tab12 pdu_AnswerParse.bits12 (fun HT_ HW_ => ?_)
                    generalize wc.drew = w44 at BK173 BK174 BK176 HB HR179 hHeld ⊢
                    refine pure_ (i := 0) (N := some 49) (v := ?_) (a' := ?_) #[true, false, false, false, false, false, false, false, false, false] rfl rfl (any_of HT_.out (by kernel_rfl)) (fun _ _ _ h => h) (Or.inl ⟨by rfl, ?_⟩) ?_ ?_
                    rotate_left
                    · intro w'
                      go_simp
                      with_reducible rfl
                    rotate_left
                    · simp only [Act.put, List.setIfInBounds_toArray, List.set_cons_zero, List.set_cons_succ, i64_w, i32_w]
                      rfl
                    refine pure_ (i := 1) (N := some 50) (v := ?_) (a' := ?_) #[true, true, false, false, false, false, false, false, false, false] rfl rfl (any_of HT_.out (by kernel_rfl)) (fun _ _ _ h => h) (Or.inl ⟨by rfl, ?_⟩) ?_ ?_
                    rotate_left
                    · intro w'
                      go_simp
                      with_reducible rfl
                    rotate_left
                    · simp only [Act.put, List.setIfInBounds_toArray, List.set_cons_zero, List.set_cons_succ, i64_w, i32_w]
                      rfl
                    refine pure_ (i := 2) (N := some 51) (v := ?_) (a' := ?_) #[true, true, true, false, false, false, false, false, false, false] rfl rfl (any_of HT_.out (by kernel_rfl)) (fun _ _ _ h => h) (Or.inl ⟨by rfl, ?_⟩) ?_ ?_
                    rotate_left
                    · intro w'
                      go_simp
                      with_reducible rfl
                    rotate_left
                    · simp only [Act.put, List.setIfInBounds_toArray, List.set_cons_zero, List.set_cons_succ, i64_w, i32_w]
                      rfl
                    refine take_ (i := 3) (N := some 52) (v := ?_) (a' := ?_) #[true, true, true, true, false, false, false, false, false, false] rfl rfl (take_ofW HT_.out HW_.out (by kernel_rfl)) (fun _ _ _ h => h) (Or.inl ⟨by rfl, ?_⟩) hHeld ?_ ?_
                    rotate_left
                    · rintro w' ⟨s0, s1, s2, s3, s4, s5, s6⟩
                      go_simp
                      with_reducible rfl
                    rotate_left
                    · simp only [Act.put, List.setIfInBounds_toArray, List.set_cons_zero, List.set_cons_succ, i64_w, i32_w]
                      rfl
                    refine one_ (i := 4) (N := some 53) #[true, true, true, true, true, false, false, false, false, false] rfl rfl (one_of HT_.out (by kernel_rfl)) (by decide) (fun K hK => ?_)
                    refine goes_ Try.func48 (by kernel_rfl) rfl #[.slice A45 (l1.drop 2).length (c1 - 2), .int .i64 a0_2] (by rfl) rfl rfl (by (try simp only [List.map_toArray, List.map_cons, List.map_nil]); first | done | (rw [show (l1.drop 2).length = (l1.length - 2) from List.length_drop] <;> rfl) | rfl | (simp only [List.length_drop, List.length_take]; rfl)) ?_
                    with_reducible refine (wire_Unpack.calls kj31 _ _ (l1.drop 2) a0_2 t180 t181 _ ?side1 ?side2 A43.out).mono ?_
                    (case side1 => repeat (first | exact (Kd.C_below HR179.out HB.out) | (with_reducible refine Kd.C_alloc ?_ _) | (with_reducible refine Kd.C_drewN ?_ _) | (with_reducible refine Kd.C_drew ?_)))
                    (case side2 => exact HC179.out)
                    rintro e w46 ⟨v182, rfl, ho0, hb⟩
                    refine ⟨_, rfl, ?_⟩
                    have n0_ := Aside0.mk (Kd.R_lower ho0 (below_size (by repeat (first | (with_reducible first | exact HB.out | apply below_alloc | apply pw_below_drewN | apply below_drew1 | refine below_set ?_ GE173.out | refine below_set ?_ GE174.out | refine below_set ?_ GE176.out) | exact HB.out))))
                    have n1_ := Aside0.mk (blk_below (g := gb173) (o := .cells #[.int .i64 a0_0, .int .i64 a0_1, .int .i64 a0_2, .slice A0_3 l0_3.length c0_3, .int .i64 a0_4, .int .i64 a0_5, .int .i64 a0_6] 31 (0, 0)) (by (with_reducible repeat (first | refine blk_drewN ?_ _ | refine blk_drew ?_ | refine blk_alloc ?_ _)); exact BK173.out) hb)
                    have n2_ := Aside0.mk (blk_below (g := gb174) (o := .cells #[.slice none 0 0, .int .i64 0] 46 (0, 0)) (by (with_reducible repeat (first | refine blk_drewN ?_ _ | refine blk_drew ?_ | refine blk_alloc ?_ _)); exact BK174.out) hb)
                    have n3_ := Aside0.mk (blk_below (g := gb176) (o := .cells #[.slice none 0 0, .int .i64 0] 46 (0, 0)) (by (with_reducible repeat (first | refine blk_drewN ?_ _ | refine blk_drew ?_ | refine blk_alloc ?_ _)); exact BK176.out) hb)
                    have n4_ := Aside0.mk (below_step (by repeat (first | (with_reducible first | exact HB.out | apply below_alloc | apply pw_below_drewN | apply below_drew1 | refine below_set ?_ GE173.out | refine below_set ?_ GE174.out | refine below_set ?_ GE176.out) | exact HB.out)) hb)
                    clear BK173
                    clear BK174
                    clear BK176
                    clear HB
                    have HO183 := n0_
                    have BK173 := n1_
                    have BK174 := n2_
                    have BK176 := n3_
                    have HB := n4_
                    clear n0_ n1_ n2_ n3_ n4_
                    (try clear hb)
                    (try clear hb2)
                    (try clear hk)
                    (try clear hi)
                    (try clear ho0)
                    obtain ⟨Ao47, co47, eo47⟩ := Kd.R_slice HO183.out
                    (first | subst eo47 | (injection eo47 with f1_ f2_ f3_; have f4_ := f1_.symm; have f5_ := f3_.symm; clear f1_ f2_ f3_; subst f4_; subst f5_))
                    refine hK.out _ _ ⟨(blk_cell BK173.out 0).trans rfl, (blk_cell BK173.out 1).trans rfl, (blk_cell BK173.out 2).trans rfl, (blk_cell BK173.out 3).trans rfl, (blk_cell BK173.out 4).trans rfl, (blk_cell BK173.out 5).trans rfl, (blk_cell BK173.out 6).trans rfl⟩ (fun hHeld => ?_)
                    clear hK K
                    refine norm_ (a' := ?_) ?_ ?_
                    rotate_left
                    · show Act.put _ (some 53) _ = _
                      simp only [Act.put, List.setIfInBounds_toArray, List.set_cons_zero, List.set_cons_succ, i64_w, i32_w]
                      rfl
                    refine pure_ (i := 5) (N := some 48) (v := ?_) (a' := ?_) #[true, true, true, true, true, true, false, false, false, false] rfl rfl (any_of HT_.out (by kernel_rfl)) (fun _ _ _ h => h) (Or.inl ⟨by rfl, ?_⟩) ?_ ?_
                    rotate_left
                    · intro w'
                      go_simp
                      with_reducible rfl
                    rotate_left
                    · simp only [Act.put, List.setIfInBounds_toArray, List.set_cons_zero, List.set_cons_succ, i64_w, i32_w]
                      rfl
                    refine pure_ (i := 6) (N := some 54) (v := ?_) (a' := ?_) #[true, true, true, true, true, true, true, false, false, false] rfl rfl (any_of HT_.out (by kernel_rfl)) (fun _ _ _ h => h) (Or.inl ⟨by rfl, ?_⟩) ?_ ?_
                    rotate_left
                    · intro w'
                      go_simp
                      with_reducible rfl
                    rotate_left
                    · simp only [Act.put, List.setIfInBounds_toArray, List.set_cons_zero, List.set_cons_succ, i64_w, i32_w]
                      rfl
                    refine pure_ (i := 7) (N := some 55) (v := ?_) (a' := ?_) #[true, true, true, true, true, true, true, true, false, false] rfl rfl (any_of HT_.out (by kernel_rfl)) (fun _ _ _ h => h) (Or.inl ⟨by rfl, ?_⟩) ?_ ?_
                    rotate_left
                    · intro w'
                      go_simp
                      with_reducible rfl
                    rotate_left
                    · simp only [Act.put, List.setIfInBounds_toArray, List.set_cons_zero, List.set_cons_succ, i64_w, i32_w]
                      rfl
                    refine pure_ (i := 8) (N := some 56) (v := ?_) (a' := ?_) #[true, true, true, true, true, true, true, true, true, false] rfl rfl (any_of HT_.out (by kernel_rfl)) (fun _ _ _ h => h) (Or.inl ⟨by rfl, ?_⟩) ?_ ?_
                    rotate_left
                    · intro w'
                      go_simp
                      with_reducible rfl
                    rotate_left
                    · simp only [Act.put, List.setIfInBounds_toArray, List.set_cons_zero, List.set_cons_succ, i64_w, i32_w]
                      rfl
                    refine one_ (i := 9) (N := none) #[true, true, true, true, true, true, true, true, true, true] rfl rfl (one_of HT_.out (by kernel_rfl)) (by decide) (fun K hK => ?_)
                    have hs48 : w46.cell? ⟨gb176, 0, none⟩ = some (.slice none 0 0) := (blk_cell BK176.out 0).trans rfl
                    have hfs48 := blk_frozen BK176.out 0
                    have hns48_0 := NB173_176.out
                    have hns48_1 := NB174_176.out
                    have hms48_0 := NB176_173.out
                    have hms48_1 := NB176_174.out
                    refine skip_ (w1 := ?_) (by rfl) rfl ?_ ?_
                    rotate_left
                    · go_simp
                      rfl
                    refine hK.out _ _ ⟨((cell_far (p := ⟨gb176, _, none⟩) NB173_176.out _).trans (hHeld.1)), ((cell_far (p := ⟨gb176, _, none⟩) NB173_176.out _).trans (hHeld.2.1)), ((cell_far (p := ⟨gb176, _, none⟩) NB173_176.out _).trans (hHeld.2.2.1)), ((cell_far (p := ⟨gb176, _, none⟩) NB173_176.out _).trans (hHeld.2.2.2.1)), ((cell_far (p := ⟨gb176, _, none⟩) NB173_176.out _).trans (hHeld.2.2.2.2.1)), ((cell_far (p := ⟨gb176, _, none⟩) NB173_176.out _).trans (hHeld.2.2.2.2.2.1)), ((cell_far (p := ⟨gb176, _, none⟩) NB173_176.out _).trans (hHeld.2.2.2.2.2.2))⟩ (fun hHeld => ?_)
                    clear hK K
                    refine done_ (done_of HT_.out (by kernel_rfl)) ?_
                    try go_wp2
                    go_meet
                    case rel => exact ⟨_, (0), (t180), (0), (.slice Ao47 t180.length co47), H', ⟨by have := HJ31.out; first | omega | exact Nat.le_refl _⟩, ⟨by (with_reducible repeat (first | apply Kd.R_alloc | apply Kd.R_drewN | apply Kd.R_drew)); exact Kd.R_mono (Kd.R_far (p := ⟨gb176, 0, none⟩) (Kd.R_types HO183.out BK176.out (by decide)) (fun _ hk => hk.2) (.slice Ao47 t180.length co47)) (fun _ hk => trivial)⟩, ⟨by (with_reducible repeat (first | refine blk_drewN ?_ _ | refine blk_drew ?_ | refine blk_alloc ?_ _)); refine blk_far ?_ NB173_176.out _; (with_reducible repeat (first | refine blk_drewN ?_ _ | refine blk_drew ?_ | refine blk_alloc ?_ _)); exact BK173.out⟩, ⟨by (with_reducible repeat (first | refine blk_drewN ?_ _ | refine blk_drew ?_ | refine blk_alloc ?_ _)); refine blk_far ?_ NB174_176.out _; (with_reducible repeat (first | refine blk_drewN ?_ _ | refine blk_drew ?_ | refine blk_alloc ?_ _)); exact BK174.out⟩, ⟨by (with_reducible repeat (first | refine blk_drewN ?_ _ | refine blk_drew ?_ | refine blk_alloc ?_ _)); refine blk_put (cs := #[.slice none 0 0, .int .i64 0]) ?_ 0 _ rfl; (with_reducible repeat (first | refine blk_drewN ?_ _ | refine blk_drew ?_ | refine blk_alloc ?_ _)); exact BK176.out⟩, ⟨by repeat (first | (with_reducible first | exact HB.out | apply below_alloc | apply pw_below_drewN | apply below_drew1 | refine below_set ?_ GE173.out | refine below_set ?_ GE174.out | refine below_set ?_ GE176.out) | exact HB.out)⟩⟩
                  · rw [if_neg c42] at H
                    exact absurd H (by simp)
                · replace c41 := Bool.eq_false_iff.mpr c41
                  subst c41
                  have H1 : (if a0_0 = 3 then (if 2 ≤ (l1.length : Int) then ((pdu_words.f kj31 (l1.drop 2)).bind fun t185 => (pdu_AnswerParse.j1 kj31 l1 a0_0 a0_1 a0_2 l0_3 a0_4 a0_5 a0_6 t185 0)) else (none)) else (if a0_0 = 4 then (if 2 ≤ (l1.length : Int) then ((pdu_words.f kj31 (l1.drop 2)).bind fun t189 => (pdu_AnswerParse.j1 kj31 l1 a0_0 a0_1 a0_2 l0_3 a0_4 a0_5 a0_6 t189 0)) else (none)) else (if a0_0 = 23 then (if 2 ≤ (l1.length : Int) then ((pdu_words.f kj31 (l1.drop 2)).bind fun t193 => (pdu_AnswerParse.j1 kj31 l1 a0_0 a0_1 a0_2 l0_3 a0_4 a0_5 a0_6 t193 0)) else (none)) else (pdu_AnswerParse.j1 kj31 l1 a0_0 a0_1 a0_2 l0_3 a0_4 a0_5 a0_6 ([] : List Int) 0)))) = some (r1, r2, r3) := by rw [if_neg (show ¬ (false = true) by decide)] at H; exact H
                  clear H
                  have H := H1
                  clear H1
                  by_cases c49 : a0_0 = 3
                  · rw [if_pos c49] at H
                    have c49b0 : (a0_0 == 3) = true := beq_iff_eq.mpr c49
                    have c49b1 : (a0_0 != 3) = false := bne_eq_false_iff_eq.mpr c49
                    clear c49
                    by_cases c50 : 2 ≤ (l1.length : Int)
                    · rw [if_pos c50] at H
                      have c50b0 := eq_true c50
                      have c50b1 : decide (2 ≤ (l1.length : Int)) = true := decide_eq_true c50
                      clear c50
                      replace H := Option.bind_eq_some_iff.mp H
                      obtain ⟨t185, A510, H⟩ := H
                      replace H : (pdu_AnswerParse.j1 kj31 l1 a0_0 a0_1 a0_2 l0_3 a0_4 a0_5 a0_6 t185 0) = some (r1, r2, r3) := H
                      have A51 := Aside0.mk A510
                      clear A510
                      have H' := Aside0.mk H
                      clear H
                      have hnb52 := NB173_174.out
                      have hnc52 := NB174_173.out
                      have hnb53 := NB173_176.out
                      have hnc53 := NB176_173.out
                      have hcz54_0 : wc.cell? ⟨gb173, 0, none⟩ = some (.int .i64 a0_0) := (blk_cell BK173.out 0).trans rfl
                      have hcz54_1 : wc.cell? ⟨gb173, 1, none⟩ = some (.int .i64 a0_1) := (blk_cell BK173.out 1).trans rfl
                      have hcz54_2 : wc.cell? ⟨gb173, 2, none⟩ = some (.int .i64 a0_2) := (blk_cell BK173.out 2).trans rfl
                      have hcz54_3 : wc.cell? ⟨gb173, 3, none⟩ = some (.slice A0_3 l0_3.length c0_3) := (blk_cell BK173.out 3).trans rfl
                      have hcz54_4 : wc.cell? ⟨gb173, 4, none⟩ = some (.int .i64 a0_4) := (blk_cell BK173.out 4).trans rfl
                      have hcz54_5 : wc.cell? ⟨gb173, 5, none⟩ = some (.int .i64 a0_5) := (blk_cell BK173.out 5).trans rfl
                      have hcz54_6 : wc.cell? ⟨gb173, 6, none⟩ = some (.int .i64 a0_6) := (blk_cell BK173.out 6).trans rfl
                      have hfz54_0 := blk_frozen BK173.out 0
                      have hfz54_1 := blk_frozen BK173.out 1
                      have hfz54_2 := blk_frozen BK173.out 2
                      have hfz54_3 := blk_frozen BK173.out 3
                      have hfz54_4 := blk_frozen BK173.out 4
                      have hfz54_5 := blk_frozen BK173.out 5
                      have hfz54_6 := blk_frozen BK173.out 6
                      obtain ⟨i055, hi055, _, hsz55, _⟩ := info_parts info5
                      obtain ⟨A55, hcut55, hA55, hC55⟩ := print_drop_of (P := Try.prog) (Value.int .u8) 0 43 5 .i64 Try.underlying43 hi055 hsz55 (some ad177) c1 l1 2 (by omega) (of_decide_eq_true (by first | (with_reducible assumption) | assumption)) HC1.out
                      have HR184 := Aside0.mk (Kd.C_of_reads (h1 := fun _ => rfl) (hA55 _ (Kd.reads_of_C HR1.out)))
                      have HC184 := Aside0.mk hC55
                      clear hA55 hC55 hi055 hsz55
                      go_wp2_with (first | ((with_reducible refine gate_callee (f := 49) rfl ?_); refine goesL_ (some 73) rfl rfl Try.func49 (by kernel_rfl) rfl #[.slice A55 (l1.drop 2).length (c1 - 2)] rfl (by (try simp only [List.map_toArray, List.map_cons, List.map_nil]); first | done | (rw [show (l1.drop 2).length = (l1.length - 2) from List.length_drop] <;> rfl) | rfl | (simp only [List.length_drop, List.length_take]; rfl)) ?_; (with_reducible refine (pdu_words.calls kj31 _ _ (l1.drop 2) t185 _ ?side1 ?side2 A51.out).mono ?_); (case side1 => repeat (first | exact (Kd.C_below HR184.out HB.out) | (with_reducible refine Kd.C_alloc ?_ _) | (with_reducible refine Kd.C_drewN ?_ _) | (with_reducible refine Kd.C_drew ?_))); (case side2 => exact HC184.out); rintro e w56 ⟨v186, rfl, ho0, hb⟩; refine ⟨_, rfl, ?_⟩; have n0_ := Aside0.mk (Kd.R_lower ho0 (below_size (by repeat (first | (with_reducible first | exact HB.out | apply below_alloc | apply pw_below_drewN | apply below_drew1 | refine below_set ?_ GE173.out | refine below_set ?_ GE174.out | refine below_set ?_ GE176.out) | exact HB.out)))); have n1_ := Aside0.mk (blk_below (g := gb173) (o := .cells #[.int .i64 a0_0, .int .i64 a0_1, .int .i64 a0_2, .slice A0_3 l0_3.length c0_3, .int .i64 a0_4, .int .i64 a0_5, .int .i64 a0_6] 31 (0, 0)) (by (with_reducible repeat (first | refine blk_drewN ?_ _ | refine blk_drew ?_ | refine blk_alloc ?_ _)); exact BK173.out) hb); have n2_ := Aside0.mk (blk_below (g := gb174) (o := .cells #[.slice none 0 0, .int .i64 0] 46 (0, 0)) (by (with_reducible repeat (first | refine blk_drewN ?_ _ | refine blk_drew ?_ | refine blk_alloc ?_ _)); exact BK174.out) hb); have n3_ := Aside0.mk (blk_below (g := gb176) (o := .cells #[.slice none 0 0, .int .i64 0] 46 (0, 0)) (by (with_reducible repeat (first | refine blk_drewN ?_ _ | refine blk_drew ?_ | refine blk_alloc ?_ _)); exact BK176.out) hb); have n4_ := Aside0.mk (below_step (by repeat (first | (with_reducible first | exact HB.out | apply below_alloc | apply pw_below_drewN | apply below_drew1 | refine below_set ?_ GE173.out | refine below_set ?_ GE174.out | refine below_set ?_ GE176.out) | exact HB.out)) hb); clear BK173; clear BK174; clear BK176; clear HB; have HO187 := n0_; have BK173 := n1_; have BK174 := n2_; have BK176 := n3_; have HB := n4_; clear n0_ n1_ n2_ n3_ n4_; (try clear hb); (try clear hb2); (try clear hk); (try clear hi); (try clear ho0); obtain ⟨Ao57, co57, eo57⟩ := Kd.R_slice HO187.out; subst eo57; have hnb58 := NB176_174.out; have hnc58 := NB174_176.out; have hcz59_0 : w56.cell? ⟨gb176, 0, none⟩ = some (.slice none 0 0) := (blk_cell BK176.out 0).trans rfl; have hcz59_1 : w56.cell? ⟨gb176, 1, none⟩ = some (.int .i64 0) := (blk_cell BK176.out 1).trans rfl; have hfz59_0 := blk_frozen BK176.out 0; have hfz59_1 := blk_frozen BK176.out 1))
                      go_meet
                      case rel => exact ⟨_, (0), (t185), (0), (.slice Ao57 t185.length co57), H', ⟨by have := HJ31.out; first | omega | exact Nat.le_refl _⟩, ⟨by (with_reducible repeat (first | apply Kd.R_alloc | apply Kd.R_drewN | apply Kd.R_drew)); exact Kd.R_mono (Kd.R_far (p := ⟨gb176, 0, none⟩) (Kd.R_types HO187.out BK176.out (by decide)) (fun _ hk => hk.2) (.slice Ao57 t185.length co57)) (fun _ hk => trivial)⟩, ⟨by (with_reducible repeat (first | refine blk_drewN ?_ _ | refine blk_drew ?_ | refine blk_alloc ?_ _)); refine blk_far ?_ NB173_176.out _; (with_reducible repeat (first | refine blk_drewN ?_ _ | refine blk_drew ?_ | refine blk_alloc ?_ _)); exact BK173.out⟩, ⟨by (with_reducible repeat (first | refine blk_drewN ?_ _ | refine blk_drew ?_ | refine blk_alloc ?_ _)); refine blk_far ?_ NB174_176.out _; (with_reducible repeat (first | refine blk_drewN ?_ _ | refine blk_drew ?_ | refine blk_alloc ?_ _)); exact BK174.out⟩, ⟨by (with_reducible repeat (first | refine blk_drewN ?_ _ | refine blk_drew ?_ | refine blk_alloc ?_ _)); refine blk_put (cs := #[.slice none 0 0, .int .i64 0]) ?_ 0 _ rfl; (with_reducible repeat (first | refine blk_drewN ?_ _ | refine blk_drew ?_ | refine blk_alloc ?_ _)); exact BK176.out⟩, ⟨by repeat (first | (with_reducible first | exact HB.out | apply below_alloc | apply pw_below_drewN | apply below_drew1 | refine below_set ?_ GE173.out | refine below_set ?_ GE174.out | refine below_set ?_ GE176.out) | exact HB.out)⟩⟩
                    · rw [if_neg c50] at H
                      exact absurd H (by simp)
                  · rw [if_neg c49] at H
                    have c49b0 : (a0_0 == 3) = false := beq_eq_false_iff_ne.mpr c49
                    have c49b1 : (a0_0 != 3) = true := bne_iff_ne.mpr c49
                    by_cases c60 : a0_0 = 4
                    · rw [if_pos c60] at H
                      have c60b0 : (a0_0 == 4) = true := beq_iff_eq.mpr c60
                      have c60b1 : (a0_0 != 4) = false := bne_eq_false_iff_eq.mpr c60
                      clear c60
                      by_cases c61 : 2 ≤ (l1.length : Int)
                      · rw [if_pos c61] at H
                        have c61b0 := eq_true c61
                        have c61b1 : decide (2 ≤ (l1.length : Int)) = true := decide_eq_true c61
                        clear c61
                        replace H := Option.bind_eq_some_iff.mp H
                        obtain ⟨t189, A620, H⟩ := H
                        replace H : (pdu_AnswerParse.j1 kj31 l1 a0_0 a0_1 a0_2 l0_3 a0_4 a0_5 a0_6 t189 0) = some (r1, r2, r3) := H
                        have A62 := Aside0.mk A620
                        clear A620
                        have H' := Aside0.mk H
                        clear H
                        have hnb63 := NB173_174.out
                        have hnc63 := NB174_173.out
                        have hnb64 := NB173_176.out
                        have hnc64 := NB176_173.out
                        have hcz65_0 : wc.cell? ⟨gb173, 0, none⟩ = some (.int .i64 a0_0) := (blk_cell BK173.out 0).trans rfl
                        have hcz65_1 : wc.cell? ⟨gb173, 1, none⟩ = some (.int .i64 a0_1) := (blk_cell BK173.out 1).trans rfl
                        have hcz65_2 : wc.cell? ⟨gb173, 2, none⟩ = some (.int .i64 a0_2) := (blk_cell BK173.out 2).trans rfl
                        have hcz65_3 : wc.cell? ⟨gb173, 3, none⟩ = some (.slice A0_3 l0_3.length c0_3) := (blk_cell BK173.out 3).trans rfl
                        have hcz65_4 : wc.cell? ⟨gb173, 4, none⟩ = some (.int .i64 a0_4) := (blk_cell BK173.out 4).trans rfl
                        have hcz65_5 : wc.cell? ⟨gb173, 5, none⟩ = some (.int .i64 a0_5) := (blk_cell BK173.out 5).trans rfl
                        have hcz65_6 : wc.cell? ⟨gb173, 6, none⟩ = some (.int .i64 a0_6) := (blk_cell BK173.out 6).trans rfl
                        have hfz65_0 := blk_frozen BK173.out 0
                        have hfz65_1 := blk_frozen BK173.out 1
                        have hfz65_2 := blk_frozen BK173.out 2
                        have hfz65_3 := blk_frozen BK173.out 3
                        have hfz65_4 := blk_frozen BK173.out 4
                        have hfz65_5 := blk_frozen BK173.out 5
                        have hfz65_6 := blk_frozen BK173.out 6
                        obtain ⟨i066, hi066, _, hsz66, _⟩ := info_parts info5
                        obtain ⟨A66, hcut66, hA66, hC66⟩ := print_drop_of (P := Try.prog) (Value.int .u8) 0 43 5 .i64 Try.underlying43 hi066 hsz66 (some ad177) c1 l1 2 (by omega) (of_decide_eq_true (by first | (with_reducible assumption) | assumption)) HC1.out
                        have HR188 := Aside0.mk (Kd.C_of_reads (h1 := fun _ => rfl) (hA66 _ (Kd.reads_of_C HR1.out)))
                        have HC188 := Aside0.mk hC66
                        clear hA66 hC66 hi066 hsz66
                        go_wp2_with (first | ((with_reducible refine gate_callee (f := 49) rfl ?_); refine goesL_ (some 73) rfl rfl Try.func49 (by kernel_rfl) rfl #[.slice A66 (l1.drop 2).length (c1 - 2)] rfl (by (try simp only [List.map_toArray, List.map_cons, List.map_nil]); first | done | (rw [show (l1.drop 2).length = (l1.length - 2) from List.length_drop] <;> rfl) | rfl | (simp only [List.length_drop, List.length_take]; rfl)) ?_; (with_reducible refine (pdu_words.calls kj31 _ _ (l1.drop 2) t189 _ ?side1 ?side2 A62.out).mono ?_); (case side1 => repeat (first | exact (Kd.C_below HR188.out HB.out) | (with_reducible refine Kd.C_alloc ?_ _) | (with_reducible refine Kd.C_drewN ?_ _) | (with_reducible refine Kd.C_drew ?_))); (case side2 => exact HC188.out); rintro e w67 ⟨v190, rfl, ho0, hb⟩; refine ⟨_, rfl, ?_⟩; have n0_ := Aside0.mk (Kd.R_lower ho0 (below_size (by repeat (first | (with_reducible first | exact HB.out | apply below_alloc | apply pw_below_drewN | apply below_drew1 | refine below_set ?_ GE173.out | refine below_set ?_ GE174.out | refine below_set ?_ GE176.out) | exact HB.out)))); have n1_ := Aside0.mk (blk_below (g := gb173) (o := .cells #[.int .i64 a0_0, .int .i64 a0_1, .int .i64 a0_2, .slice A0_3 l0_3.length c0_3, .int .i64 a0_4, .int .i64 a0_5, .int .i64 a0_6] 31 (0, 0)) (by (with_reducible repeat (first | refine blk_drewN ?_ _ | refine blk_drew ?_ | refine blk_alloc ?_ _)); exact BK173.out) hb); have n2_ := Aside0.mk (blk_below (g := gb174) (o := .cells #[.slice none 0 0, .int .i64 0] 46 (0, 0)) (by (with_reducible repeat (first | refine blk_drewN ?_ _ | refine blk_drew ?_ | refine blk_alloc ?_ _)); exact BK174.out) hb); have n3_ := Aside0.mk (blk_below (g := gb176) (o := .cells #[.slice none 0 0, .int .i64 0] 46 (0, 0)) (by (with_reducible repeat (first | refine blk_drewN ?_ _ | refine blk_drew ?_ | refine blk_alloc ?_ _)); exact BK176.out) hb); have n4_ := Aside0.mk (below_step (by repeat (first | (with_reducible first | exact HB.out | apply below_alloc | apply pw_below_drewN | apply below_drew1 | refine below_set ?_ GE173.out | refine below_set ?_ GE174.out | refine below_set ?_ GE176.out) | exact HB.out)) hb); clear BK173; clear BK174; clear BK176; clear HB; have HO191 := n0_; have BK173 := n1_; have BK174 := n2_; have BK176 := n3_; have HB := n4_; clear n0_ n1_ n2_ n3_ n4_; (try clear hb); (try clear hb2); (try clear hk); (try clear hi); (try clear ho0); obtain ⟨Ao68, co68, eo68⟩ := Kd.R_slice HO191.out; subst eo68; have hnb69 := NB176_174.out; have hnc69 := NB174_176.out; have hcz70_0 : w67.cell? ⟨gb176, 0, none⟩ = some (.slice none 0 0) := (blk_cell BK176.out 0).trans rfl; have hcz70_1 : w67.cell? ⟨gb176, 1, none⟩ = some (.int .i64 0) := (blk_cell BK176.out 1).trans rfl; have hfz70_0 := blk_frozen BK176.out 0; have hfz70_1 := blk_frozen BK176.out 1))
                        go_meet
                        case rel => exact ⟨_, (0), (t189), (0), (.slice Ao68 t189.length co68), H', ⟨by have := HJ31.out; first | omega | exact Nat.le_refl _⟩, ⟨by (with_reducible repeat (first | apply Kd.R_alloc | apply Kd.R_drewN | apply Kd.R_drew)); exact Kd.R_mono (Kd.R_far (p := ⟨gb176, 0, none⟩) (Kd.R_types HO191.out BK176.out (by decide)) (fun _ hk => hk.2) (.slice Ao68 t189.length co68)) (fun _ hk => trivial)⟩, ⟨by (with_reducible repeat (first | refine blk_drewN ?_ _ | refine blk_drew ?_ | refine blk_alloc ?_ _)); refine blk_far ?_ NB173_176.out _; (with_reducible repeat (first | refine blk_drewN ?_ _ | refine blk_drew ?_ | refine blk_alloc ?_ _)); exact BK173.out⟩, ⟨by (with_reducible repeat (first | refine blk_drewN ?_ _ | refine blk_drew ?_ | refine blk_alloc ?_ _)); refine blk_far ?_ NB174_176.out _; (with_reducible repeat (first | refine blk_drewN ?_ _ | refine blk_drew ?_ | refine blk_alloc ?_ _)); exact BK174.out⟩, ⟨by (with_reducible repeat (first | refine blk_drewN ?_ _ | refine blk_drew ?_ | refine blk_alloc ?_ _)); refine blk_put (cs := #[.slice none 0 0, .int .i64 0]) ?_ 0 _ rfl; (with_reducible repeat (first | refine blk_drewN ?_ _ | refine blk_drew ?_ | refine blk_alloc ?_ _)); exact BK176.out⟩, ⟨by repeat (first | (with_reducible first | exact HB.out | apply below_alloc | apply pw_below_drewN | apply below_drew1 | refine below_set ?_ GE173.out | refine below_set ?_ GE174.out | refine below_set ?_ GE176.out) | exact HB.out)⟩⟩
                      · rw [if_neg c61] at H
                        exact absurd H (by simp)
                    · rw [if_neg c60] at H
                      have c60b0 : (a0_0 == 4) = false := beq_eq_false_iff_ne.mpr c60
                      have c60b1 : (a0_0 != 4) = true := bne_iff_ne.mpr c60
                      by_cases c71 : a0_0 = 23
                      · rw [if_pos c71] at H
                        have c71b0 : (a0_0 == 23) = true := beq_iff_eq.mpr c71
                        have c71b1 : (a0_0 != 23) = false := bne_eq_false_iff_eq.mpr c71
                        clear c71
                        by_cases c72 : 2 ≤ (l1.length : Int)
                        · rw [if_pos c72] at H
                          have c72b0 := eq_true c72
                          have c72b1 : decide (2 ≤ (l1.length : Int)) = true := decide_eq_true c72
                          clear c72
                          replace H := Option.bind_eq_some_iff.mp H
                          obtain ⟨t193, A730, H⟩ := H
                          replace H : (pdu_AnswerParse.j1 kj31 l1 a0_0 a0_1 a0_2 l0_3 a0_4 a0_5 a0_6 t193 0) = some (r1, r2, r3) := H
                          have A73 := Aside0.mk A730
                          clear A730
                          have H' := Aside0.mk H
                          clear H
                          have hnb74 := NB173_174.out
                          have hnc74 := NB174_173.out
                          have hnb75 := NB173_176.out
                          have hnc75 := NB176_173.out
                          have hcz76_0 : wc.cell? ⟨gb173, 0, none⟩ = some (.int .i64 a0_0) := (blk_cell BK173.out 0).trans rfl
                          have hcz76_1 : wc.cell? ⟨gb173, 1, none⟩ = some (.int .i64 a0_1) := (blk_cell BK173.out 1).trans rfl
                          have hcz76_2 : wc.cell? ⟨gb173, 2, none⟩ = some (.int .i64 a0_2) := (blk_cell BK173.out 2).trans rfl
                          have hcz76_3 : wc.cell? ⟨gb173, 3, none⟩ = some (.slice A0_3 l0_3.length c0_3) := (blk_cell BK173.out 3).trans rfl
                          have hcz76_4 : wc.cell? ⟨gb173, 4, none⟩ = some (.int .i64 a0_4) := (blk_cell BK173.out 4).trans rfl
                          have hcz76_5 : wc.cell? ⟨gb173, 5, none⟩ = some (.int .i64 a0_5) := (blk_cell BK173.out 5).trans rfl
                          have hcz76_6 : wc.cell? ⟨gb173, 6, none⟩ = some (.int .i64 a0_6) := (blk_cell BK173.out 6).trans rfl
                          have hfz76_0 := blk_frozen BK173.out 0
                          have hfz76_1 := blk_frozen BK173.out 1
                          have hfz76_2 := blk_frozen BK173.out 2
                          have hfz76_3 := blk_frozen BK173.out 3
                          have hfz76_4 := blk_frozen BK173.out 4
                          have hfz76_5 := blk_frozen BK173.out 5
                          have hfz76_6 := blk_frozen BK173.out 6
                          obtain ⟨i077, hi077, _, hsz77, _⟩ := info_parts info5
                          obtain ⟨A77, hcut77, hA77, hC77⟩ := print_drop_of (P := Try.prog) (Value.int .u8) 0 43 5 .i64 Try.underlying43 hi077 hsz77 (some ad177) c1 l1 2 (by omega) (of_decide_eq_true (by first | (with_reducible assumption) | assumption)) HC1.out
                          have HR192 := Aside0.mk (Kd.C_of_reads (h1 := fun _ => rfl) (hA77 _ (Kd.reads_of_C HR1.out)))
                          have HC192 := Aside0.mk hC77
                          clear hA77 hC77 hi077 hsz77
                          go_wp2_with (first | ((with_reducible refine gate_callee (f := 49) rfl ?_); refine goesL_ (some 73) rfl rfl Try.func49 (by kernel_rfl) rfl #[.slice A77 (l1.drop 2).length (c1 - 2)] rfl (by (try simp only [List.map_toArray, List.map_cons, List.map_nil]); first | done | (rw [show (l1.drop 2).length = (l1.length - 2) from List.length_drop] <;> rfl) | rfl | (simp only [List.length_drop, List.length_take]; rfl)) ?_; (with_reducible refine (pdu_words.calls kj31 _ _ (l1.drop 2) t193 _ ?side1 ?side2 A73.out).mono ?_); (case side1 => repeat (first | exact (Kd.C_below HR192.out HB.out) | (with_reducible refine Kd.C_alloc ?_ _) | (with_reducible refine Kd.C_drewN ?_ _) | (with_reducible refine Kd.C_drew ?_))); (case side2 => exact HC192.out); rintro e w78 ⟨v194, rfl, ho0, hb⟩; refine ⟨_, rfl, ?_⟩; have n0_ := Aside0.mk (Kd.R_lower ho0 (below_size (by repeat (first | (with_reducible first | exact HB.out | apply below_alloc | apply pw_below_drewN | apply below_drew1 | refine below_set ?_ GE173.out | refine below_set ?_ GE174.out | refine below_set ?_ GE176.out) | exact HB.out)))); have n1_ := Aside0.mk (blk_below (g := gb173) (o := .cells #[.int .i64 a0_0, .int .i64 a0_1, .int .i64 a0_2, .slice A0_3 l0_3.length c0_3, .int .i64 a0_4, .int .i64 a0_5, .int .i64 a0_6] 31 (0, 0)) (by (with_reducible repeat (first | refine blk_drewN ?_ _ | refine blk_drew ?_ | refine blk_alloc ?_ _)); exact BK173.out) hb); have n2_ := Aside0.mk (blk_below (g := gb174) (o := .cells #[.slice none 0 0, .int .i64 0] 46 (0, 0)) (by (with_reducible repeat (first | refine blk_drewN ?_ _ | refine blk_drew ?_ | refine blk_alloc ?_ _)); exact BK174.out) hb); have n3_ := Aside0.mk (blk_below (g := gb176) (o := .cells #[.slice none 0 0, .int .i64 0] 46 (0, 0)) (by (with_reducible repeat (first | refine blk_drewN ?_ _ | refine blk_drew ?_ | refine blk_alloc ?_ _)); exact BK176.out) hb); have n4_ := Aside0.mk (below_step (by repeat (first | (with_reducible first | exact HB.out | apply below_alloc | apply pw_below_drewN | apply below_drew1 | refine below_set ?_ GE173.out | refine below_set ?_ GE174.out | refine below_set ?_ GE176.out) | exact HB.out)) hb); clear BK173; clear BK174; clear BK176; clear HB; have HO195 := n0_; have BK173 := n1_; have BK174 := n2_; have BK176 := n3_; have HB := n4_; clear n0_ n1_ n2_ n3_ n4_; (try clear hb); (try clear hb2); (try clear hk); (try clear hi); (try clear ho0); obtain ⟨Ao79, co79, eo79⟩ := Kd.R_slice HO195.out; subst eo79; have hnb80 := NB176_174.out; have hnc80 := NB174_176.out; have hcz81_0 : w78.cell? ⟨gb176, 0, none⟩ = some (.slice none 0 0) := (blk_cell BK176.out 0).trans rfl; have hcz81_1 : w78.cell? ⟨gb176, 1, none⟩ = some (.int .i64 0) := (blk_cell BK176.out 1).trans rfl; have hfz81_0 := blk_frozen BK176.out 0; have hfz81_1 := blk_frozen BK176.out 1))
                          go_meet
                          case rel => exact ⟨_, (0), (t193), (0), (.slice Ao79 t193.length co79), H', ⟨by have := HJ31.out; first | omega | exact Nat.le_refl _⟩, ⟨by (with_reducible repeat (first | apply Kd.R_alloc | apply Kd.R_drewN | apply Kd.R_drew)); exact Kd.R_mono (Kd.R_far (p := ⟨gb176, 0, none⟩) (Kd.R_types HO195.out BK176.out (by decide)) (fun _ hk => hk.2) (.slice Ao79 t193.length co79)) (fun _ hk => trivial)⟩, ⟨by (with_reducible repeat (first | refine blk_drewN ?_ _ | refine blk_drew ?_ | refine blk_alloc ?_ _)); refine blk_far ?_ NB173_176.out _; (with_reducible repeat (first | refine blk_drewN ?_ _ | refine blk_drew ?_ | refine blk_alloc ?_ _)); exact BK173.out⟩, ⟨by (with_reducible repeat (first | refine blk_drewN ?_ _ | refine blk_drew ?_ | refine blk_alloc ?_ _)); refine blk_far ?_ NB174_176.out _; (with_reducible repeat (first | refine blk_drewN ?_ _ | refine blk_drew ?_ | refine blk_alloc ?_ _)); exact BK174.out⟩, ⟨by (with_reducible repeat (first | refine blk_drewN ?_ _ | refine blk_drew ?_ | refine blk_alloc ?_ _)); refine blk_put (cs := #[.slice none 0 0, .int .i64 0]) ?_ 0 _ rfl; (with_reducible repeat (first | refine blk_drewN ?_ _ | refine blk_drew ?_ | refine blk_alloc ?_ _)); exact BK176.out⟩, ⟨by repeat (first | (with_reducible first | exact HB.out | apply below_alloc | apply pw_below_drewN | apply below_drew1 | refine below_set ?_ GE173.out | refine below_set ?_ GE174.out | refine below_set ?_ GE176.out) | exact HB.out)⟩⟩
                        · rw [if_neg c72] at H
                          exact absurd H (by simp)
                      · rw [if_neg c71] at H
                        have c71b0 : (a0_0 == 23) = false := beq_eq_false_iff_ne.mpr c71
                        have c71b1 : (a0_0 != 23) = true := bne_iff_ne.mpr c71
                        have H' := Aside0.mk H
                        clear H
                        have hnb82 := NB173_174.out
                        have hnc82 := NB174_173.out
                        have hnb83 := NB173_176.out
                        have hnc83 := NB176_173.out
                        have hcz84_0 : wc.cell? ⟨gb173, 0, none⟩ = some (.int .i64 a0_0) := (blk_cell BK173.out 0).trans rfl
                        have hcz84_1 : wc.cell? ⟨gb173, 1, none⟩ = some (.int .i64 a0_1) := (blk_cell BK173.out 1).trans rfl
                        have hcz84_2 : wc.cell? ⟨gb173, 2, none⟩ = some (.int .i64 a0_2) := (blk_cell BK173.out 2).trans rfl
                        have hcz84_3 : wc.cell? ⟨gb173, 3, none⟩ = some (.slice A0_3 l0_3.length c0_3) := (blk_cell BK173.out 3).trans rfl
                        have hcz84_4 : wc.cell? ⟨gb173, 4, none⟩ = some (.int .i64 a0_4) := (blk_cell BK173.out 4).trans rfl
                        have hcz84_5 : wc.cell? ⟨gb173, 5, none⟩ = some (.int .i64 a0_5) := (blk_cell BK173.out 5).trans rfl
                        have hcz84_6 : wc.cell? ⟨gb173, 6, none⟩ = some (.int .i64 a0_6) := (blk_cell BK173.out 6).trans rfl
                        have hfz84_0 := blk_frozen BK173.out 0
                        have hfz84_1 := blk_frozen BK173.out 1
                        have hfz84_2 := blk_frozen BK173.out 2
                        have hfz84_3 := blk_frozen BK173.out 3
                        have hfz84_4 := blk_frozen BK173.out 4
                        have hfz84_5 := blk_frozen BK173.out 5
                        have hfz84_6 := blk_frozen BK173.out 6
                        go_wp2
                        go_meet
                        case rel => exact ⟨_, (0), (([] : List Int)), (0), (.slice none 0 0), H', ⟨by have := HJ31.out; first | omega | exact Nat.le_refl _⟩, ⟨by first | exact Kd.R_nil _ _ _ _ _ | exact Kd.N_nil _ _ _ _ _ | exact Kd.V_nil _ _ _ _ _ | exact Kd.Q_nil _ _ _ _ _ | exact Kd.S_nil _ _ _ _ _⟩, ⟨by (with_reducible repeat (first | refine blk_drewN ?_ _ | refine blk_drew ?_ | refine blk_alloc ?_ _)); exact BK173.out⟩, ⟨by (with_reducible repeat (first | refine blk_drewN ?_ _ | refine blk_drew ?_ | refine blk_alloc ?_ _)); exact BK174.out⟩, ⟨by (with_reducible repeat (first | refine blk_drewN ?_ _ | refine blk_drew ?_ | refine blk_alloc ?_ _)); exact BK176.out⟩, ⟨by repeat (first | (with_reducible first | exact HB.out | apply below_alloc | apply pw_below_drewN | apply below_drew1 | refine below_set ?_ GE173.out | refine below_set ?_ GE174.out | refine below_set ?_ GE176.out) | exact HB.out)⟩⟩
        · rw [if_neg c18] at H
          exact absurd H (by simp)
    case rest =>
      clear HC5
      try clear c1
      try clear p1
      try clear q1
      try clear hx1
      try clear qi1
      try clear c2
      try clear p2
      try clear c3
      try clear c4
      try clear c4b0
      try clear c4b1
      try clear c5
      try clear c6
      try clear p6
      try clear c7
      try clear c8
      try clear c12
      try clear c12b0
      try clear c12b1
      try clear c13
      try clear c14
      try clear c16
      try clear p17
      try clear q17
      try clear hx17
      try clear qi17
      try clear c18
      try clear c18b0
      try clear c18b1
      try clear c19
      try clear c19b0
      try clear c19b1
      try clear c20
      try clear c20b0
      try clear c20b1
      try clear c21
      try clear c21b0
      try clear c21b1
      try clear c23
      try clear c24
      try clear c26
      try clear c29
      try clear c30
      try clear c34
      try clear c34b0
      try clear c34b1
      try clear c35
      try clear c36
      try clear c38
      try clear c39
      try clear c41
      try clear c42
      try clear c42b0
      try clear c42b1
      try clear c48
      try clear c49
      try clear c49b0
      try clear c49b1
      try clear c50
      try clear c50b0
      try clear c50b1
      try clear c52
      try clear c53
      try clear c58
      try clear c60
      try clear c60b0
      try clear c60b1
      try clear c61
      try clear c61b0
      try clear c61b1
      try clear c63
      try clear c64
      try clear c69
      try clear c71
      try clear c71b0
      try clear c71b1
      try clear c72
      try clear c72b0
      try clear c72b1
      try clear c74
      try clear c75
      try clear c80
      try clear c82
      try clear c83
      try clear hcz15_0
      try clear hcz15_1
      try clear hcz17_0
      try clear hcz17_1
      try clear hcz25_0
      try clear hcz25_1
      try clear hcz27_0
      try clear hcz27_1
      try clear hcz31_0
      try clear hcz31_1
      try clear hcz37_0
      try clear hcz37_1
      try clear hcz37_2
      try clear hcz37_3
      try clear hcz37_4
      try clear hcz37_5
      try clear hcz37_6
      try clear hcz40_0
      try clear hcz40_1
      try clear hcz40_2
      try clear hcz40_3
      try clear hcz40_4
      try clear hcz40_5
      try clear hcz40_6
      try clear hcz54_0
      try clear hcz54_1
      try clear hcz54_2
      try clear hcz54_3
      try clear hcz54_4
      try clear hcz54_5
      try clear hcz54_6
      try clear hcz59_0
      try clear hcz59_1
      try clear hcz65_0
      try clear hcz65_1
      try clear hcz65_2
      try clear hcz65_3
      try clear hcz65_4
      try clear hcz65_5
      try clear hcz65_6
      try clear hcz70_0
      try clear hcz70_1
      try clear hcz76_0
      try clear hcz76_1
      try clear hcz76_2
      try clear hcz76_3
      try clear hcz76_4
      try clear hcz76_5
      try clear hcz76_6
      try clear hcz81_0
      try clear hcz81_1
      try clear hcz84_0
      try clear hcz84_1
      try clear hcz84_2
      try clear hcz84_3
      try clear hcz84_4
      try clear hcz84_5
      try clear hcz84_6
      try clear hcz9_0
      try clear hcz9_1
      try clear hcz9_2
      try clear hcz9_3
      try clear hcz9_4
      try clear hcz9_5
      try clear hcz9_6
      try clear hfz15_0
      try clear hfz15_1
      try clear hfz17_0
      try clear hfz17_1
      try clear hfz25_0
      try clear hfz25_1
      try clear hfz27_0
      try clear hfz27_1
      try clear hfz31_0
      try clear hfz31_1
      try clear hfz37_0
      try clear hfz37_1
      try clear hfz37_2
      try clear hfz37_3
      try clear hfz37_4
      try clear hfz37_5
      try clear hfz37_6
      try clear hfz40_0
      try clear hfz40_1
      try clear hfz40_2
      try clear hfz40_3
      try clear hfz40_4
      try clear hfz40_5
      try clear hfz40_6
      try clear hfz54_0
      try clear hfz54_1
      try clear hfz54_2
      try clear hfz54_3
      try clear hfz54_4
      try clear hfz54_5
      try clear hfz54_6
      try clear hfz59_0
      try clear hfz59_1
      try clear hfz65_0
      try clear hfz65_1
      try clear hfz65_2
      try clear hfz65_3
      try clear hfz65_4
      try clear hfz65_5
      try clear hfz65_6
      try clear hfz70_0
      try clear hfz70_1
      try clear hfz76_0
      try clear hfz76_1
      try clear hfz76_2
      try clear hfz76_3
      try clear hfz76_4
      try clear hfz76_5
      try clear hfz76_6
      try clear hfz81_0
      try clear hfz81_1
      try clear hfz84_0
      try clear hfz84_1
      try clear hfz84_2
      try clear hfz84_3
      try clear hfz84_4
      try clear hfz84_5
      try clear hfz84_6
      try clear hfz9_0
      try clear hfz9_1
      try clear hfz9_2
      try clear hfz9_3
      try clear hfz9_4
      try clear hfz9_5
      try clear hfz9_6
      try clear hx177_0
      try clear hx178_0
      try clear p1
      try clear p17
      try clear p177
      try clear p178
      try clear p2
      try clear p6
      try clear q1
      try clear q17
      try clear q177
      try clear q178
      obtain ⟨kq, x175001_4, x177000_4, x177001_4, u177000, HA, HJ4, HO_177000, BK173, BK174, BK176, HB⟩ := hcut
      cases kq with
      | zero => exact absurd HA.out (by simp [pdu_AnswerParse.j1])
      | succ kj4 =>
        have H := HA.out
        clear HA
        simp only [pdu_AnswerParse.j1] at H
        replace H := Option.bind_eq_some_iff.mp H
        obtain ⟨⟨t196, t199⟩, A850, H⟩ := H
        replace H : (if t199 = 0 then ((bytes_Equal.f t196 l1).bind fun t200 => (if t200 = true then (some (x177000_4, x177001_4, 0)) else (some (([] : List Int), 0, 4)))) else (some (([] : List Int), 0, 4))) = some (r1, r2, r3) := H
        have A85 := Aside0.mk A850
        clear A850
        by_cases c86 : t199 = 0
        · rw [if_pos c86] at H
          have c86b0 : (t199 == 0) = true := beq_iff_eq.mpr c86
          have c86b1 : (t199 != 0) = false := bne_eq_false_iff_eq.mpr c86
          clear c86
          replace H := Option.bind_eq_some_iff.mp H
          obtain ⟨t200, A870, H⟩ := H
          replace H : (if t200 = true then (some (x177000_4, x177001_4, 0)) else (some (([] : List Int), 0, 4))) = some (r1, r2, r3) := H
          have A87 := Aside0.mk A870
          clear A870
          by_cases c88 : t200 = true
          · subst c88
            have H1 : (some (x177000_4, x177001_4, 0)) = some (r1, r2, r3) := by rw [if_pos rfl] at H; exact H
            clear H
            have H := H1
            clear H1
            simp only [Option.some.injEq, Prod.mk.injEq] at H
            obtain ⟨rfl, rfl, rfl⟩ := H
            have hnb89 := NB173_174.out
            have hnc89 := NB174_173.out
            have hnb90 := NB173_176.out
            have hnc90 := NB176_173.out
            have hcz91_0 : wc.cell? ⟨gb173, 0, none⟩ = some (.int .i64 a0_0) := (blk_cell BK173.out 0).trans rfl
            have hcz91_1 : wc.cell? ⟨gb173, 1, none⟩ = some (.int .i64 a0_1) := (blk_cell BK173.out 1).trans rfl
            have hcz91_2 : wc.cell? ⟨gb173, 2, none⟩ = some (.int .i64 a0_2) := (blk_cell BK173.out 2).trans rfl
            have hcz91_3 : wc.cell? ⟨gb173, 3, none⟩ = some (.slice A0_3 l0_3.length c0_3) := (blk_cell BK173.out 3).trans rfl
            have hcz91_4 : wc.cell? ⟨gb173, 4, none⟩ = some (.int .i64 a0_4) := (blk_cell BK173.out 4).trans rfl
            have hcz91_5 : wc.cell? ⟨gb173, 5, none⟩ = some (.int .i64 a0_5) := (blk_cell BK173.out 5).trans rfl
            have hcz91_6 : wc.cell? ⟨gb173, 6, none⟩ = some (.int .i64 a0_6) := (blk_cell BK173.out 6).trans rfl
            have hfz91_0 := blk_frozen BK173.out 0
            have hfz91_1 := blk_frozen BK173.out 1
            have hfz91_2 := blk_frozen BK173.out 2
            have hfz91_3 := blk_frozen BK173.out 3
            have hfz91_4 := blk_frozen BK173.out 4
            have hfz91_5 := blk_frozen BK173.out 5
            have hfz91_6 := blk_frozen BK173.out 6
            have hnb92 := NB176_174.out
            have hnc92 := NB174_176.out
            have hcz93_0 : wc.cell? ⟨gb176, 0, none⟩ = some (u177000) := (blk_cell BK176.out 0).trans rfl
            have hcz93_1 : wc.cell? ⟨gb176, 1, none⟩ = some (.int .i64 x177001_4) := (blk_cell BK176.out 1).trans rfl
            have hfz93_0 := blk_frozen BK176.out 0
            have hfz93_1 := blk_frozen BK176.out 1
            obtain ⟨Ao94, co94, eo94⟩ := Kd.R_slice HO_177000.out
            subst eo94
            go_wp2_with (first | ((with_reducible refine gate_callee (f := 50) rfl ?_); refine goesL_ (some 78) rfl rfl Try.func50 (by kernel_rfl) rfl #[.agg #[.int .i64 a0_0, .int .i64 a0_1, .int .i64 a0_2, .slice A0_3 l0_3.length c0_3, .int .i64 a0_4, .int .i64 a0_5, .int .i64 a0_6], .agg #[.slice Ao94 x177000_4.length co94, .int .i64 x177001_4]] rfl (by (try simp only [List.map_toArray, List.map_cons, List.map_nil]); first | done | rfl | (simp only [List.length_drop, List.length_take]; rfl)) ?_; (with_reducible refine (pdu_AnswerBytes.calls kj4 a0_0 a0_1 a0_2 _ _ l0_3 a0_4 a0_5 a0_6 _ _ x177000_4 x177001_4 t196 t199 _ ?side1 ?side2 ?side3 ?side4 A85.out).mono ?_); (case side1 => repeat (first | exact (Kd.C_below HR0_3.out HB.out) | (with_reducible refine Kd.C_alloc ?_ _) | (with_reducible refine Kd.C_drewN ?_ _) | (with_reducible refine Kd.C_drew ?_))); (case side2 => exact HC0_3.out); (case side3 => repeat (first | exact (Kd.R_reads' HO_177000.out).2.2 | (with_reducible refine Kd.C_alloc ?_ _) | (with_reducible refine Kd.C_drewN ?_ _) | (with_reducible refine Kd.C_drew ?_))); (case side4 => exact (Kd.R_reads' HO_177000.out).2.1); rintro e w95 ⟨v197, rfl, ho0, hb⟩; refine ⟨_, rfl, ?_⟩; have n0_ := Aside0.mk (Kd.R_below (by (with_reducible repeat (first | apply Kd.R_alloc | apply Kd.R_drewN | apply Kd.R_drew)); exact HO_177000.out) hb); have n1_ := Aside0.mk (Kd.R_lower ho0 (below_size (by repeat (first | (with_reducible first | exact HB.out | apply below_alloc | apply pw_below_drewN | apply below_drew1 | refine below_set ?_ GE173.out | refine below_set ?_ GE174.out | refine below_set ?_ GE176.out) | exact HB.out)))); have n2_ := Aside0.mk (blk_below (g := gb173) (o := .cells #[.int .i64 a0_0, .int .i64 a0_1, .int .i64 a0_2, .slice A0_3 l0_3.length c0_3, .int .i64 a0_4, .int .i64 a0_5, .int .i64 a0_6] 31 (0, 0)) (by (with_reducible repeat (first | refine blk_drewN ?_ _ | refine blk_drew ?_ | refine blk_alloc ?_ _)); exact BK173.out) hb); have n3_ := Aside0.mk (blk_below (g := gb174) (o := .cells #[.slice none 0 0, .int .i64 x175001_4] 46 (0, 0)) (by (with_reducible repeat (first | refine blk_drewN ?_ _ | refine blk_drew ?_ | refine blk_alloc ?_ _)); exact BK174.out) hb); have n4_ := Aside0.mk (blk_below (g := gb176) (o := .cells #[.slice Ao94 x177000_4.length co94, .int .i64 x177001_4] 46 (0, 0)) (by (with_reducible repeat (first | refine blk_drewN ?_ _ | refine blk_drew ?_ | refine blk_alloc ?_ _)); exact BK176.out) hb); have n5_ := Aside0.mk (below_step (by repeat (first | (with_reducible first | exact HB.out | apply below_alloc | apply pw_below_drewN | apply below_drew1 | refine below_set ?_ GE173.out | refine below_set ?_ GE174.out | refine below_set ?_ GE176.out) | exact HB.out)) hb); clear HO_177000; clear BK173; clear BK174; clear BK176; clear HB; have HO_177000 := n0_; have HO198 := n1_; have BK173 := n2_; have BK174 := n3_; have BK176 := n4_; have HB := n5_; clear n0_ n1_ n2_ n3_ n4_ n5_; (try clear hb); (try clear hb2); (try clear hk); (try clear hi); (try clear ho0); obtain ⟨Ao96, co96, eo96⟩ := Kd.R_slice HO198.out; subst eo96) | (go_at_call 51; (with_reducible refine (bytes_Equal.calls _ _ t196 _ _ l1 true _ ?side1 ?side2 ?side3 ?side4 A87.out).mono ?_); (case side1 => repeat (first | exact (Kd.R_reads' HO198.out).2.2 | (with_reducible refine Kd.C_alloc ?_ _) | (with_reducible refine Kd.C_drewN ?_ _) | (with_reducible refine Kd.C_drew ?_))); (case side2 => exact (Kd.R_reads' HO198.out).2.1); (case side3 => repeat (first | exact (Kd.C_below HR1.out HB.out) | (with_reducible refine Kd.C_alloc ?_ _) | (with_reducible refine Kd.C_drewN ?_ _) | (with_reducible refine Kd.C_drew ?_))); (case side4 => exact HC1.out); rintro e w' ⟨rfl, ⟨nd, rfl⟩⟩; (try (rw [drewN_self w95]; generalize hq_ : World.drewN w95 _ = w95; have n0_ : Aside0 (Kd.R (Kd.int .u8) 5 w95 w.heap.size (fun _ => True) (.slice Ao96 t196.length co96) t196) := ⟨by rw [← hq_]; exact (by (with_reducible repeat (first | apply Kd.R_alloc | apply Kd.R_drewN | apply Kd.R_drew)); exact HO198.out)⟩; have n1_ : Aside0 (Kd.R (Kd.int .i64) 3 w95 w.heap.size (fun _ => True) (.slice Ao94 x177000_4.length co94) x177000_4) := ⟨by rw [← hq_]; exact (by (with_reducible repeat (first | apply Kd.R_alloc | apply Kd.R_drewN | apply Kd.R_drew)); exact HO_177000.out)⟩; have n2_ : Aside0 (w95.heap[gb173]? = some (.cells #[.int .i64 a0_0, .int .i64 a0_1, .int .i64 a0_2, .slice A0_3 l0_3.length c0_3, .int .i64 a0_4, .int .i64 a0_5, .int .i64 a0_6] 31 (0, 0))) := ⟨by rw [← hq_]; exact (by (with_reducible repeat (first | refine blk_drewN ?_ _ | refine blk_drew ?_ | refine blk_alloc ?_ _)); exact BK173.out)⟩; have n3_ : Aside0 (w95.heap[gb174]? = some (.cells #[.slice none 0 0, .int .i64 x175001_4] 46 (0, 0))) := ⟨by rw [← hq_]; exact (by (with_reducible repeat (first | refine blk_drewN ?_ _ | refine blk_drew ?_ | refine blk_alloc ?_ _)); exact BK174.out)⟩; have n4_ : Aside0 (w95.heap[gb176]? = some (.cells #[.slice Ao94 x177000_4.length co94, .int .i64 x177001_4] 46 (0, 0))) := ⟨by rw [← hq_]; exact (by (with_reducible repeat (first | refine blk_drewN ?_ _ | refine blk_drew ?_ | refine blk_alloc ?_ _)); exact BK176.out)⟩; have n5_ : Aside0 (Below w.heap.size w w95) := ⟨by rw [← hq_]; exact (by repeat (first | (with_reducible first | exact HB.out | apply below_alloc | apply pw_below_drewN | apply below_drew1 | refine below_set ?_ GE173.out | refine below_set ?_ GE174.out | refine below_set ?_ GE176.out) | exact HB.out))⟩; clear HO198 HO_177000 BK173 BK174 BK176 HB hq_; have HO198 := n0_; have HO_177000 := n1_; have BK173 := n2_; have BK174 := n3_; have BK176 := n4_; have HB := n5_; clear n0_ n1_ n2_ n3_ n4_ n5_)); have hcz97_0 : w95.cell? ⟨gb176, 0, none⟩ = some (.slice Ao94 x177000_4.length co94) := (blk_cell BK176.out 0).trans rfl; have hcz97_1 : w95.cell? ⟨gb176, 1, none⟩ = some (.int .i64 x177001_4) := (blk_cell BK176.out 1).trans rfl; have hfz97_0 := blk_frozen BK176.out 0; have hfz97_1 := blk_frozen BK176.out 1; have hcz98_0 : w95.cell? ⟨gb174, 0, none⟩ = some (.slice none 0 0) := (blk_cell BK174.out 0).trans rfl; have hcz98_1 : w95.cell? ⟨gb174, 1, none⟩ = some (.int .i64 x175001_4) := (blk_cell BK174.out 1).trans rfl; have hfz98_0 := blk_frozen BK174.out 0; have hfz98_1 := blk_frozen BK174.out 1))
            refine bodyPost_ret (results_ct rfl _ _ gb174 46 #[.slice Ao94 x177000_4.length co94, .int .i64 x177001_4] (0, 0) _ rfl (by (with_reducible repeat (first | refine blk_drewN ?_ _ | refine blk_drew ?_ | refine blk_alloc ?_ _)); refine blk_put (cs := #[.slice Ao94 x177000_4.length co94, .int .i64 x175001_4]) ?_ 1 _ rfl; (with_reducible repeat (first | refine blk_drewN ?_ _ | refine blk_drew ?_ | refine blk_alloc ?_ _)); refine blk_put (cs := #[.slice none 0 0, .int .i64 x175001_4]) ?_ 0 _ rfl; (with_reducible repeat (first | refine blk_drewN ?_ _ | refine blk_drew ?_ | refine blk_alloc ?_ _)); exact BK174.out) Try.underlying46 rfl (by kernel_rfl)) rfl ?_
            exact ⟨_, by first | rfl | (simp [errW_none, errW_some] <;> rfl) | (simp [*, errW_none, errW_some] <;> rfl), by (with_reducible repeat (first | apply Kd.R_alloc | apply Kd.R_drewN | apply Kd.R_drew)); exact Kd.R_mono (Kd.R_far (p := ⟨gb174, 1, none⟩) (Kd.R_far (p := ⟨gb174, 0, none⟩) (Kd.R_types HO_177000.out BK174.out (by decide)) (fun _ hk => hk.2) (.slice Ao94 x177000_4.length co94)) (fun _ hk => hk.2) (.int .i64 x177001_4)) (fun _ hk => trivial), by repeat (first | (with_reducible first | exact HB.out | apply below_alloc | apply pw_below_drewN | apply below_drew1 | refine below_set ?_ GE173.out | refine below_set ?_ GE174.out | refine below_set ?_ GE176.out) | exact HB.out)⟩
          · replace c88 := Bool.eq_false_iff.mpr c88
            subst c88
            have H1 : (some (([] : List Int), 0, 4)) = some (r1, r2, r3) := by rw [if_neg (show ¬ (false = true) by decide)] at H; exact H
            clear H
            have H := H1
            clear H1
            simp only [Option.some.injEq, Prod.mk.injEq] at H
            obtain ⟨rfl, rfl, rfl⟩ := H
            have hnb99 := NB173_174.out
            have hnc99 := NB174_173.out
            have hnb100 := NB173_176.out
            have hnc100 := NB176_173.out
            have hcz101_0 : wc.cell? ⟨gb173, 0, none⟩ = some (.int .i64 a0_0) := (blk_cell BK173.out 0).trans rfl
            have hcz101_1 : wc.cell? ⟨gb173, 1, none⟩ = some (.int .i64 a0_1) := (blk_cell BK173.out 1).trans rfl
            have hcz101_2 : wc.cell? ⟨gb173, 2, none⟩ = some (.int .i64 a0_2) := (blk_cell BK173.out 2).trans rfl
            have hcz101_3 : wc.cell? ⟨gb173, 3, none⟩ = some (.slice A0_3 l0_3.length c0_3) := (blk_cell BK173.out 3).trans rfl
            have hcz101_4 : wc.cell? ⟨gb173, 4, none⟩ = some (.int .i64 a0_4) := (blk_cell BK173.out 4).trans rfl
            have hcz101_5 : wc.cell? ⟨gb173, 5, none⟩ = some (.int .i64 a0_5) := (blk_cell BK173.out 5).trans rfl
            have hcz101_6 : wc.cell? ⟨gb173, 6, none⟩ = some (.int .i64 a0_6) := (blk_cell BK173.out 6).trans rfl
            have hfz101_0 := blk_frozen BK173.out 0
            have hfz101_1 := blk_frozen BK173.out 1
            have hfz101_2 := blk_frozen BK173.out 2
            have hfz101_3 := blk_frozen BK173.out 3
            have hfz101_4 := blk_frozen BK173.out 4
            have hfz101_5 := blk_frozen BK173.out 5
            have hfz101_6 := blk_frozen BK173.out 6
            have hnb102 := NB176_174.out
            have hnc102 := NB174_176.out
            have hcz103_0 : wc.cell? ⟨gb176, 0, none⟩ = some (u177000) := (blk_cell BK176.out 0).trans rfl
            have hcz103_1 : wc.cell? ⟨gb176, 1, none⟩ = some (.int .i64 x177001_4) := (blk_cell BK176.out 1).trans rfl
            have hfz103_0 := blk_frozen BK176.out 0
            have hfz103_1 := blk_frozen BK176.out 1
            obtain ⟨Ao104, co104, eo104⟩ := Kd.R_slice HO_177000.out
            subst eo104
            go_wp2_with (first | ((with_reducible refine gate_callee (f := 50) rfl ?_); refine goesL_ (some 78) rfl rfl Try.func50 (by kernel_rfl) rfl #[.agg #[.int .i64 a0_0, .int .i64 a0_1, .int .i64 a0_2, .slice A0_3 l0_3.length c0_3, .int .i64 a0_4, .int .i64 a0_5, .int .i64 a0_6], .agg #[.slice Ao104 x177000_4.length co104, .int .i64 x177001_4]] rfl (by (try simp only [List.map_toArray, List.map_cons, List.map_nil]); first | done | rfl | (simp only [List.length_drop, List.length_take]; rfl)) ?_; (with_reducible refine (pdu_AnswerBytes.calls kj4 a0_0 a0_1 a0_2 _ _ l0_3 a0_4 a0_5 a0_6 _ _ x177000_4 x177001_4 t196 t199 _ ?side1 ?side2 ?side3 ?side4 A85.out).mono ?_); (case side1 => repeat (first | exact (Kd.C_below HR0_3.out HB.out) | (with_reducible refine Kd.C_alloc ?_ _) | (with_reducible refine Kd.C_drewN ?_ _) | (with_reducible refine Kd.C_drew ?_))); (case side2 => exact HC0_3.out); (case side3 => repeat (first | exact (Kd.R_reads' HO_177000.out).2.2 | (with_reducible refine Kd.C_alloc ?_ _) | (with_reducible refine Kd.C_drewN ?_ _) | (with_reducible refine Kd.C_drew ?_))); (case side4 => exact (Kd.R_reads' HO_177000.out).2.1); rintro e w105 ⟨v197, rfl, ho0, hb⟩; refine ⟨_, rfl, ?_⟩; have n0_ := Aside0.mk (Kd.R_below (by (with_reducible repeat (first | apply Kd.R_alloc | apply Kd.R_drewN | apply Kd.R_drew)); exact HO_177000.out) hb); have n1_ := Aside0.mk (Kd.R_lower ho0 (below_size (by repeat (first | (with_reducible first | exact HB.out | apply below_alloc | apply pw_below_drewN | apply below_drew1 | refine below_set ?_ GE173.out | refine below_set ?_ GE174.out | refine below_set ?_ GE176.out) | exact HB.out)))); have n2_ := Aside0.mk (blk_below (g := gb173) (o := .cells #[.int .i64 a0_0, .int .i64 a0_1, .int .i64 a0_2, .slice A0_3 l0_3.length c0_3, .int .i64 a0_4, .int .i64 a0_5, .int .i64 a0_6] 31 (0, 0)) (by (with_reducible repeat (first | refine blk_drewN ?_ _ | refine blk_drew ?_ | refine blk_alloc ?_ _)); exact BK173.out) hb); have n3_ := Aside0.mk (blk_below (g := gb174) (o := .cells #[.slice none 0 0, .int .i64 x175001_4] 46 (0, 0)) (by (with_reducible repeat (first | refine blk_drewN ?_ _ | refine blk_drew ?_ | refine blk_alloc ?_ _)); exact BK174.out) hb); have n4_ := Aside0.mk (blk_below (g := gb176) (o := .cells #[.slice Ao104 x177000_4.length co104, .int .i64 x177001_4] 46 (0, 0)) (by (with_reducible repeat (first | refine blk_drewN ?_ _ | refine blk_drew ?_ | refine blk_alloc ?_ _)); exact BK176.out) hb); have n5_ := Aside0.mk (below_step (by repeat (first | (with_reducible first | exact HB.out | apply below_alloc | apply pw_below_drewN | apply below_drew1 | refine below_set ?_ GE173.out | refine below_set ?_ GE174.out | refine below_set ?_ GE176.out) | exact HB.out)) hb); clear HO_177000; clear BK173; clear BK174; clear BK176; clear HB; have HO_177000 := n0_; have HO198 := n1_; have BK173 := n2_; have BK174 := n3_; have BK176 := n4_; have HB := n5_; clear n0_ n1_ n2_ n3_ n4_ n5_; (try clear hb); (try clear hb2); (try clear hk); (try clear hi); (try clear ho0); obtain ⟨Ao106, co106, eo106⟩ := Kd.R_slice HO198.out; subst eo106) | (go_at_call 51; (with_reducible refine (bytes_Equal.calls _ _ t196 _ _ l1 false _ ?side1 ?side2 ?side3 ?side4 A87.out).mono ?_); (case side1 => repeat (first | exact (Kd.R_reads' HO198.out).2.2 | (with_reducible refine Kd.C_alloc ?_ _) | (with_reducible refine Kd.C_drewN ?_ _) | (with_reducible refine Kd.C_drew ?_))); (case side2 => exact (Kd.R_reads' HO198.out).2.1); (case side3 => repeat (first | exact (Kd.C_below HR1.out HB.out) | (with_reducible refine Kd.C_alloc ?_ _) | (with_reducible refine Kd.C_drewN ?_ _) | (with_reducible refine Kd.C_drew ?_))); (case side4 => exact HC1.out); rintro e w' ⟨rfl, ⟨nd, rfl⟩⟩; (try (rw [drewN_self w105]; generalize hq_ : World.drewN w105 _ = w105; have n0_ : Aside0 (Kd.R (Kd.int .u8) 5 w105 w.heap.size (fun _ => True) (.slice Ao106 t196.length co106) t196) := ⟨by rw [← hq_]; exact (by (with_reducible repeat (first | apply Kd.R_alloc | apply Kd.R_drewN | apply Kd.R_drew)); exact HO198.out)⟩; have n1_ : Aside0 (Kd.R (Kd.int .i64) 3 w105 w.heap.size (fun _ => True) (.slice Ao104 x177000_4.length co104) x177000_4) := ⟨by rw [← hq_]; exact (by (with_reducible repeat (first | apply Kd.R_alloc | apply Kd.R_drewN | apply Kd.R_drew)); exact HO_177000.out)⟩; have n2_ : Aside0 (w105.heap[gb173]? = some (.cells #[.int .i64 a0_0, .int .i64 a0_1, .int .i64 a0_2, .slice A0_3 l0_3.length c0_3, .int .i64 a0_4, .int .i64 a0_5, .int .i64 a0_6] 31 (0, 0))) := ⟨by rw [← hq_]; exact (by (with_reducible repeat (first | refine blk_drewN ?_ _ | refine blk_drew ?_ | refine blk_alloc ?_ _)); exact BK173.out)⟩; have n3_ : Aside0 (w105.heap[gb174]? = some (.cells #[.slice none 0 0, .int .i64 x175001_4] 46 (0, 0))) := ⟨by rw [← hq_]; exact (by (with_reducible repeat (first | refine blk_drewN ?_ _ | refine blk_drew ?_ | refine blk_alloc ?_ _)); exact BK174.out)⟩; have n4_ : Aside0 (w105.heap[gb176]? = some (.cells #[.slice Ao104 x177000_4.length co104, .int .i64 x177001_4] 46 (0, 0))) := ⟨by rw [← hq_]; exact (by (with_reducible repeat (first | refine blk_drewN ?_ _ | refine blk_drew ?_ | refine blk_alloc ?_ _)); exact BK176.out)⟩; have n5_ : Aside0 (Below w.heap.size w w105) := ⟨by rw [← hq_]; exact (by repeat (first | (with_reducible first | exact HB.out | apply below_alloc | apply pw_below_drewN | apply below_drew1 | refine below_set ?_ GE173.out | refine below_set ?_ GE174.out | refine below_set ?_ GE176.out) | exact HB.out))⟩; clear HO198 HO_177000 BK173 BK174 BK176 HB hq_; have HO198 := n0_; have HO_177000 := n1_; have BK173 := n2_; have BK174 := n3_; have BK176 := n4_; have HB := n5_; clear n0_ n1_ n2_ n3_ n4_ n5_)); have hcz107_0 : w105.cell? ⟨gb174, 0, none⟩ = some (.slice none 0 0) := (blk_cell BK174.out 0).trans rfl; have hcz107_1 : w105.cell? ⟨gb174, 1, none⟩ = some (.int .i64 x175001_4) := (blk_cell BK174.out 1).trans rfl; have hfz107_0 := blk_frozen BK174.out 0; have hfz107_1 := blk_frozen BK174.out 1))
            refine bodyPost_ret (results_ct rfl _ _ gb174 46 #[.slice none 0 0, .int .i64 0] (0, 0) _ rfl (by (with_reducible repeat (first | refine blk_drewN ?_ _ | refine blk_drew ?_ | refine blk_alloc ?_ _)); refine blk_put (cs := #[.slice none 0 0, .int .i64 x175001_4]) ?_ 1 _ rfl; (with_reducible repeat (first | refine blk_drewN ?_ _ | refine blk_drew ?_ | refine blk_alloc ?_ _)); refine blk_put (cs := #[.slice none 0 0, .int .i64 x175001_4]) ?_ 0 _ rfl; (with_reducible repeat (first | refine blk_drewN ?_ _ | refine blk_drew ?_ | refine blk_alloc ?_ _)); exact BK174.out) Try.underlying46 rfl (by kernel_rfl)) rfl ?_
            exact ⟨_, by first | rfl | (simp [errW_none, errW_some] <;> rfl) | (simp [*, errW_none, errW_some] <;> rfl), by first | exact Kd.R_nil _ _ _ _ _ | exact Kd.N_nil _ _ _ _ _ | exact Kd.V_nil _ _ _ _ _ | exact Kd.Q_nil _ _ _ _ _ | exact Kd.S_nil _ _ _ _ _, by repeat (first | (with_reducible first | exact HB.out | apply below_alloc | apply pw_below_drewN | apply below_drew1 | refine below_set ?_ GE173.out | refine below_set ?_ GE174.out | refine below_set ?_ GE176.out) | exact HB.out)⟩
        · rw [if_neg c86] at H
          have c86b0 : (t199 == 0) = false := beq_eq_false_iff_ne.mpr c86
          have c86b1 : (t199 != 0) = true := bne_iff_ne.mpr c86
          simp only [Option.some.injEq, Prod.mk.injEq] at H
          obtain ⟨rfl, rfl, rfl⟩ := H
          have hnb108 := NB173_174.out
          have hnc108 := NB174_173.out
          have hnb109 := NB173_176.out
          have hnc109 := NB176_173.out
          have hcz110_0 : wc.cell? ⟨gb173, 0, none⟩ = some (.int .i64 a0_0) := (blk_cell BK173.out 0).trans rfl
          have hcz110_1 : wc.cell? ⟨gb173, 1, none⟩ = some (.int .i64 a0_1) := (blk_cell BK173.out 1).trans rfl
          have hcz110_2 : wc.cell? ⟨gb173, 2, none⟩ = some (.int .i64 a0_2) := (blk_cell BK173.out 2).trans rfl
          have hcz110_3 : wc.cell? ⟨gb173, 3, none⟩ = some (.slice A0_3 l0_3.length c0_3) := (blk_cell BK173.out 3).trans rfl
          have hcz110_4 : wc.cell? ⟨gb173, 4, none⟩ = some (.int .i64 a0_4) := (blk_cell BK173.out 4).trans rfl
          have hcz110_5 : wc.cell? ⟨gb173, 5, none⟩ = some (.int .i64 a0_5) := (blk_cell BK173.out 5).trans rfl
          have hcz110_6 : wc.cell? ⟨gb173, 6, none⟩ = some (.int .i64 a0_6) := (blk_cell BK173.out 6).trans rfl
          have hfz110_0 := blk_frozen BK173.out 0
          have hfz110_1 := blk_frozen BK173.out 1
          have hfz110_2 := blk_frozen BK173.out 2
          have hfz110_3 := blk_frozen BK173.out 3
          have hfz110_4 := blk_frozen BK173.out 4
          have hfz110_5 := blk_frozen BK173.out 5
          have hfz110_6 := blk_frozen BK173.out 6
          have hnb111 := NB176_174.out
          have hnc111 := NB174_176.out
          have hcz112_0 : wc.cell? ⟨gb176, 0, none⟩ = some (u177000) := (blk_cell BK176.out 0).trans rfl
          have hcz112_1 : wc.cell? ⟨gb176, 1, none⟩ = some (.int .i64 x177001_4) := (blk_cell BK176.out 1).trans rfl
          have hfz112_0 := blk_frozen BK176.out 0
          have hfz112_1 := blk_frozen BK176.out 1
          obtain ⟨Ao113, co113, eo113⟩ := Kd.R_slice HO_177000.out
          subst eo113
          go_wp2_with (first | ((with_reducible refine gate_callee (f := 50) rfl ?_); refine goesL_ (some 78) rfl rfl Try.func50 (by kernel_rfl) rfl #[.agg #[.int .i64 a0_0, .int .i64 a0_1, .int .i64 a0_2, .slice A0_3 l0_3.length c0_3, .int .i64 a0_4, .int .i64 a0_5, .int .i64 a0_6], .agg #[.slice Ao113 x177000_4.length co113, .int .i64 x177001_4]] rfl (by (try simp only [List.map_toArray, List.map_cons, List.map_nil]); first | done | rfl | (simp only [List.length_drop, List.length_take]; rfl)) ?_; (with_reducible refine (pdu_AnswerBytes.calls kj4 a0_0 a0_1 a0_2 _ _ l0_3 a0_4 a0_5 a0_6 _ _ x177000_4 x177001_4 t196 t199 _ ?side1 ?side2 ?side3 ?side4 A85.out).mono ?_); (case side1 => repeat (first | exact (Kd.C_below HR0_3.out HB.out) | (with_reducible refine Kd.C_alloc ?_ _) | (with_reducible refine Kd.C_drewN ?_ _) | (with_reducible refine Kd.C_drew ?_))); (case side2 => exact HC0_3.out); (case side3 => repeat (first | exact (Kd.R_reads' HO_177000.out).2.2 | (with_reducible refine Kd.C_alloc ?_ _) | (with_reducible refine Kd.C_drewN ?_ _) | (with_reducible refine Kd.C_drew ?_))); (case side4 => exact (Kd.R_reads' HO_177000.out).2.1); rintro e w114 ⟨v197, rfl, ho0, hb⟩; refine ⟨_, rfl, ?_⟩; have n0_ := Aside0.mk (Kd.R_below (by (with_reducible repeat (first | apply Kd.R_alloc | apply Kd.R_drewN | apply Kd.R_drew)); exact HO_177000.out) hb); have n1_ := Aside0.mk (Kd.R_lower ho0 (below_size (by repeat (first | (with_reducible first | exact HB.out | apply below_alloc | apply pw_below_drewN | apply below_drew1 | refine below_set ?_ GE173.out | refine below_set ?_ GE174.out | refine below_set ?_ GE176.out) | exact HB.out)))); have n2_ := Aside0.mk (blk_below (g := gb173) (o := .cells #[.int .i64 a0_0, .int .i64 a0_1, .int .i64 a0_2, .slice A0_3 l0_3.length c0_3, .int .i64 a0_4, .int .i64 a0_5, .int .i64 a0_6] 31 (0, 0)) (by (with_reducible repeat (first | refine blk_drewN ?_ _ | refine blk_drew ?_ | refine blk_alloc ?_ _)); exact BK173.out) hb); have n3_ := Aside0.mk (blk_below (g := gb174) (o := .cells #[.slice none 0 0, .int .i64 x175001_4] 46 (0, 0)) (by (with_reducible repeat (first | refine blk_drewN ?_ _ | refine blk_drew ?_ | refine blk_alloc ?_ _)); exact BK174.out) hb); have n4_ := Aside0.mk (blk_below (g := gb176) (o := .cells #[.slice Ao113 x177000_4.length co113, .int .i64 x177001_4] 46 (0, 0)) (by (with_reducible repeat (first | refine blk_drewN ?_ _ | refine blk_drew ?_ | refine blk_alloc ?_ _)); exact BK176.out) hb); have n5_ := Aside0.mk (below_step (by repeat (first | (with_reducible first | exact HB.out | apply below_alloc | apply pw_below_drewN | apply below_drew1 | refine below_set ?_ GE173.out | refine below_set ?_ GE174.out | refine below_set ?_ GE176.out) | exact HB.out)) hb); clear HO_177000; clear BK173; clear BK174; clear BK176; clear HB; have HO_177000 := n0_; have HO198 := n1_; have BK173 := n2_; have BK174 := n3_; have BK176 := n4_; have HB := n5_; clear n0_ n1_ n2_ n3_ n4_ n5_; (try clear hb); (try clear hb2); (try clear hk); (try clear hi); (try clear ho0); have hcz115_0 : w114.cell? ⟨gb174, 0, none⟩ = some (.slice none 0 0) := (blk_cell BK174.out 0).trans rfl; have hcz115_1 : w114.cell? ⟨gb174, 1, none⟩ = some (.int .i64 x175001_4) := (blk_cell BK174.out 1).trans rfl; have hfz115_0 := blk_frozen BK174.out 0; have hfz115_1 := blk_frozen BK174.out 1))
          refine bodyPost_ret (results_ct rfl _ _ gb174 46 #[.slice none 0 0, .int .i64 0] (0, 0) _ rfl (by (with_reducible repeat (first | refine blk_drewN ?_ _ | refine blk_drew ?_ | refine blk_alloc ?_ _)); refine blk_put (cs := #[.slice none 0 0, .int .i64 x175001_4]) ?_ 1 _ rfl; (with_reducible repeat (first | refine blk_drewN ?_ _ | refine blk_drew ?_ | refine blk_alloc ?_ _)); refine blk_put (cs := #[.slice none 0 0, .int .i64 x175001_4]) ?_ 0 _ rfl; (with_reducible repeat (first | refine blk_drewN ?_ _ | refine blk_drew ?_ | refine blk_alloc ?_ _)); exact BK174.out) Try.underlying46 rfl (by kernel_rfl)) rfl ?_
          exact ⟨_, by first | rfl | (simp [errW_none, errW_some] <;> rfl) | (simp [*, errW_none, errW_some] <;> rfl), by first | exact Kd.R_nil _ _ _ _ _ | exact Kd.N_nil _ _ _ _ _ | exact Kd.V_nil _ _ _ _ _ | exact Kd.Q_nil _ _ _ _ _ | exact Kd.S_nil _ _ _ _ _, by repeat (first | (with_reducible first | exact HB.out | apply below_alloc | apply pw_below_drewN | apply below_drew1 | refine below_set ?_ GE173.out | refine below_set ?_ GE174.out | refine below_set ?_ GE176.out) | exact HB.out)⟩
  · rw [if_neg c4] at H
    have c4b0 : (t175 == 0) = false := beq_eq_false_iff_ne.mpr c4
    have c4b1 : (t175 != 0) = true := bne_iff_ne.mpr c4
    simp only [Option.some.injEq, Prod.mk.injEq] at H
    obtain ⟨rfl, rfl, rfl⟩ := H
    go_enter Try.func35, Try.ntmps35
    go_wp2_with (first | ((with_reducible refine gate_dst (N := 2) rfl ?_); refine box_event ?hg (N := 2) ?hd (cs := #[.int .i64 a0_0, .int .i64 a0_1, .int .i64 a0_2, .slice A0_3 l0_3.length c0_3, .int .i64 a0_4, .int .i64 a0_5, .int .i64 a0_6]) (t := 31) ?hr ?_; (case hd => rfl); (case hg => rfl); (case hr => first | (go_simp; done) | (go_simp; rfl)); intro gb173 hg w116 hbox hb; have n0_ := Aside0.mk (below_step (by repeat (first | (with_reducible first | exact HB.out | apply below_alloc | apply pw_below_drewN | apply below_drew1) | exact HB.out)) hb); have n1_ := Aside0.mk (hbox); have n2_ := Aside0.mk ((by rw [hg]; exact (below_size (by repeat (first | (with_reducible first | exact HB.out | apply below_alloc | apply pw_below_drewN | apply below_drew1) | exact HB.out))) : w.heap.size ≤ gb173)); have n3_ := Aside0.mk ((by rw [hg]; exact (below_size (by repeat (first | (with_reducible first | exact HB.out | apply below_alloc | apply pw_below_drewN | apply below_drew1) | exact HB.out))) : w.heap.size ≤ gb173)); clear HB; have HB := n0_; have BK173 := n1_; have GW173 := n2_; have GE173 := n3_; clear n0_ n1_ n2_ n3_; clear hb hbox hg) | ((with_reducible refine gate_dst (N := 4) rfl ?_); refine box_event ?hg (N := 4) ?hd (cs := #[.slice none 0 0, .int .i64 0]) (t := 46) ?hr ?_; (case hd => rfl); (case hg => rfl); (case hr => first | (go_simp; done) | (go_simp; rfl)); intro gb174 hg w117 hbox hb; have n0_ := Aside0.mk (blk_below (g := gb173) (o := .cells #[.int .i64 a0_0, .int .i64 a0_1, .int .i64 a0_2, .slice A0_3 l0_3.length c0_3, .int .i64 a0_4, .int .i64 a0_5, .int .i64 a0_6] 31 (0, 0)) (by (with_reducible repeat (first | refine blk_drewN ?_ _ | refine blk_drew ?_ | refine blk_alloc ?_ _)); exact BK173.out) hb); have n1_ := Aside0.mk (below_step (by repeat (first | (with_reducible first | exact HB.out | apply below_alloc | apply pw_below_drewN | apply below_drew1 | refine below_set ?_ GE173.out) | exact HB.out)) hb); have n2_ := Aside0.mk (hbox); have n3_ := Aside0.mk ((by rw [hg]; exact (below_size (by repeat (first | (with_reducible first | exact HB.out | apply below_alloc | apply pw_below_drewN | apply below_drew1 | refine below_set ?_ GE173.out) | exact HB.out))) : w.heap.size ≤ gb174)); have n4_ := Aside0.mk ((by rw [hg]; exact (below_size (by repeat (first | (with_reducible first | exact HB.out | apply below_alloc | apply pw_below_drewN | apply below_drew1 | refine below_set ?_ GE173.out) | exact HB.out))) : w.heap.size ≤ gb174)); have n5_ := Aside0.mk ((by rw [hg]; exact Nat.ne_of_lt (blk_lt (g := gb173) (o := .cells #[.int .i64 a0_0, .int .i64 a0_1, .int .i64 a0_2, .slice A0_3 l0_3.length c0_3, .int .i64 a0_4, .int .i64 a0_5, .int .i64 a0_6] 31 (0, 0)) (by (with_reducible repeat (first | refine blk_drewN ?_ _ | refine blk_drew ?_ | refine blk_alloc ?_ _)); exact BK173.out)) : gb173 ≠ gb174)); have n6_ := Aside0.mk ((by rw [hg]; exact Nat.ne_of_gt (blk_lt (g := gb173) (o := .cells #[.int .i64 a0_0, .int .i64 a0_1, .int .i64 a0_2, .slice A0_3 l0_3.length c0_3, .int .i64 a0_4, .int .i64 a0_5, .int .i64 a0_6] 31 (0, 0)) (by (with_reducible repeat (first | refine blk_drewN ?_ _ | refine blk_drew ?_ | refine blk_alloc ?_ _)); exact BK173.out)) : gb174 ≠ gb173)); clear BK173; clear HB; have BK173 := n0_; have HB := n1_; have BK174 := n2_; have GW174 := n3_; have GE174 := n4_; have NB173_174 := n5_; have NB174_173 := n6_; clear n0_ n1_ n2_ n3_ n4_ n5_ n6_; clear hb hbox hg; have hnb118 := NB173_174.out; have hnc118 := NB174_173.out; have hcz119_0 : w117.cell? ⟨gb173, 0, none⟩ = some (.int .i64 a0_0) := (blk_cell BK173.out 0).trans rfl; have hcz119_1 : w117.cell? ⟨gb173, 1, none⟩ = some (.int .i64 a0_1) := (blk_cell BK173.out 1).trans rfl; have hcz119_2 : w117.cell? ⟨gb173, 2, none⟩ = some (.int .i64 a0_2) := (blk_cell BK173.out 2).trans rfl; have hcz119_3 : w117.cell? ⟨gb173, 3, none⟩ = some (.slice A0_3 l0_3.length c0_3) := (blk_cell BK173.out 3).trans rfl; have hcz119_4 : w117.cell? ⟨gb173, 4, none⟩ = some (.int .i64 a0_4) := (blk_cell BK173.out 4).trans rfl; have hcz119_5 : w117.cell? ⟨gb173, 5, none⟩ = some (.int .i64 a0_5) := (blk_cell BK173.out 5).trans rfl; have hcz119_6 : w117.cell? ⟨gb173, 6, none⟩ = some (.int .i64 a0_6) := (blk_cell BK173.out 6).trans rfl; have hfz119_0 := blk_frozen BK173.out 0; have hfz119_1 := blk_frozen BK173.out 1; have hfz119_2 := blk_frozen BK173.out 2; have hfz119_3 := blk_frozen BK173.out 3; have hfz119_4 := blk_frozen BK173.out 4; have hfz119_5 := blk_frozen BK173.out 5; have hfz119_6 := blk_frozen BK173.out 6) | ((with_reducible refine gate_callee (f := 29) rfl ?_); refine goesL_ (some 11) rfl rfl Try.func29 (by kernel_rfl) rfl #[.agg #[.int .i64 a0_0, .int .i64 a0_1, .int .i64 a0_2, .slice A0_3 l0_3.length c0_3, .int .i64 a0_4, .int .i64 a0_5, .int .i64 a0_6]] rfl (by (try simp only [List.map_toArray, List.map_cons, List.map_nil]); first | done | rfl | (simp only [List.length_drop, List.length_take]; rfl)) ?_; (with_reducible refine (pdu_Check.calls a0_0 a0_1 a0_2 _ _ l0_3 a0_4 a0_5 a0_6 t175 _ ?side1 ?side2 A3.out).mono ?_); (case side1 => repeat (first | exact (Kd.C_below HR0_3.out HB.out) | (with_reducible refine Kd.C_alloc ?_ _) | (with_reducible refine Kd.C_drewN ?_ _) | (with_reducible refine Kd.C_drew ?_))); (case side2 => exact HC0_3.out); rintro e w120 ⟨rfl, hb⟩; refine ⟨_, rfl, ?_⟩; have n0_ := Aside0.mk (blk_below (g := gb173) (o := .cells #[.int .i64 a0_0, .int .i64 a0_1, .int .i64 a0_2, .slice A0_3 l0_3.length c0_3, .int .i64 a0_4, .int .i64 a0_5, .int .i64 a0_6] 31 (0, 0)) (by (with_reducible repeat (first | refine blk_drewN ?_ _ | refine blk_drew ?_ | refine blk_alloc ?_ _)); exact BK173.out) hb); have n1_ := Aside0.mk (blk_below (g := gb174) (o := .cells #[.slice none 0 0, .int .i64 0] 46 (0, 0)) (by (with_reducible repeat (first | refine blk_drewN ?_ _ | refine blk_drew ?_ | refine blk_alloc ?_ _)); exact BK174.out) hb); have n2_ := Aside0.mk (below_step (by repeat (first | (with_reducible first | exact HB.out | apply below_alloc | apply pw_below_drewN | apply below_drew1 | refine below_set ?_ GE173.out | refine below_set ?_ GE174.out) | exact HB.out)) hb); clear BK173; clear BK174; clear HB; have BK173 := n0_; have BK174 := n1_; have HB := n2_; clear n0_ n1_ n2_; (try clear hb); (try clear hb2); (try clear hk); (try clear hi); have hcz121_0 : w120.cell? ⟨gb174, 0, none⟩ = some (.slice none 0 0) := (blk_cell BK174.out 0).trans rfl; have hcz121_1 : w120.cell? ⟨gb174, 1, none⟩ = some (.int .i64 0) := (blk_cell BK174.out 1).trans rfl; have hfz121_0 := blk_frozen BK174.out 0; have hfz121_1 := blk_frozen BK174.out 1))
    refine bodyPost_ret (results_ct rfl _ _ gb174 46 #[.slice none 0 0, .int .i64 0] (0, 0) _ rfl (by (with_reducible repeat (first | refine blk_drewN ?_ _ | refine blk_drew ?_ | refine blk_alloc ?_ _)); refine blk_put (cs := #[.slice none 0 0, .int .i64 0]) ?_ 1 _ rfl; (with_reducible repeat (first | refine blk_drewN ?_ _ | refine blk_drew ?_ | refine blk_alloc ?_ _)); refine blk_put (cs := #[.slice none 0 0, .int .i64 0]) ?_ 0 _ rfl; (with_reducible repeat (first | refine blk_drewN ?_ _ | refine blk_drew ?_ | refine blk_alloc ?_ _)); exact BK174.out) Try.underlying46 rfl (by kernel_rfl)) rfl ?_
    exact ⟨_, by first | rfl | (simp [errW_none, errW_some] <;> rfl) | (simp [*, errW_none, errW_some] <;> rfl), by first | exact Kd.R_nil _ _ _ _ _ | exact Kd.N_nil _ _ _ _ _ | exact Kd.V_nil _ _ _ _ _ | exact Kd.Q_nil _ _ _ _ _ | exact Kd.S_nil _ _ _ _ _, by repeat (first | (with_reducible first | exact HB.out | apply below_alloc | apply pw_below_drewN | apply below_drew1 | refine below_set ?_ GE173.out | refine below_set ?_ GE174.out) | exact HB.out)⟩
end Go.Proofs.Ytlalpooiegganaa.PQ
end

/- The words, contracts and walks that this claim leans on, put together by a program of this session (part 3). -/
import Derived.Test.YtlalpooiegganaaZN2
section
namespace Go.Proofs.Ytlalpooiegganaa.PG
open Go.RowKit Go.Proofs.YtlalpooiegganaaW.PrintWords Go.Proofs.YtlalpooiegganaaW.PrintLast Go.Proofs.YtlalpooiegganaaW.PrintMore
attribute [local go_sem] max2_int min2_int max_two min_two max_three min_three max_four min_four   
set_option linter.unusedVariables false
set_option linter.unusedSimpArgs false
open Go.Proofs.Ytlalpooiegganaa.Ext Go.Proofs.Ytlalpooiegganaa.PP Go.Proofs.Ytlalpooiegganaa.ExtF Go.Proofs.Ytlalpooiegganaa.ExtM
def pdu_Bytes.f (k : Nat) (a0_0 : Int) (a0_1 : Int) (a0_2 : Int) (l0_3 : List Int) (a0_4 : Int) (a0_5 : Int) (a0_6 : Int) : Option (List Int × Int) := (pdu_Check.f a0_0 a0_1 a0_2 l0_3 a0_4 a0_5 a0_6).bind fun t142 => (if t142 = 0 then ((pdu_lay.f (([(a0_0) % 256] : List Int)) (([a0_1] : List Int))).bind fun t149 => (if a0_0 = 5 then (if 0 < (l0_3.length : Int) then ((pdu_lay.f t149 (([wrap64 (65280 * (rd l0_3 0))] : List Int))).bind fun t156 => (some (t156, 0))) else (none)) else (if a0_0 = 6 then (if 0 < (l0_3.length : Int) then ((pdu_lay.f t149 (([rd l0_3 0] : List Int))).bind fun t163 => (some (t163, 0))) else (none)) else (if a0_0 = 22 then ((pdu_lay.f t149 (([a0_5, a0_6] : List Int))).bind fun t169 => (some (t169, 0))) else (if a0_0 = 15 then ((pdu_lay.f t149 (([a0_2] : List Int))).bind fun t175 => ((pdu_packed.f k l0_3).bind fun t178 => ((pdu_counted.f t175 t178).bind fun t181 => (some (t181, 0))))) else (if a0_0 = 23 then ((pdu_lay.f t149 (([a0_2, a0_4, (l0_3.length : Int)] : List Int))).bind fun t187 => ((pdu_lay.f ([] : List Int) l0_3).bind fun t190 => ((pdu_counted.f t187 t190).bind fun t193 => (some (t193, 0))))) else (if a0_0 = 16 then ((pdu_lay.f t149 (([a0_2] : List Int))).bind fun t199 => ((pdu_lay.f ([] : List Int) l0_3).bind fun t202 => ((pdu_counted.f t199 t202).bind fun t205 => (some (t205, 0))))) else ((pdu_lay.f t149 (([a0_2] : List Int))).bind fun t211 => (some (t211, 0)))))))))) else (some (([] : List Int), t142)))
theorem pdu_Bytes.mono : ∀ a0 a1 a2 a3 a4 a5 a6 k, LeO (pdu_Bytes.f k a0 a1 a2 a3 a4 a5 a6) (pdu_Bytes.f (k + 1) a0 a1 a2 a3 a4 a5 a6) := by
 intro a0 a1 a2 a3 a4 a5 a6 k
 unfold pdu_Bytes.f
 repeat' first
  | (with_reducible exact pdu_packed.mono _ _)
  | (with_reducible exact LeO.refl _)
  | (with_reducible exact LeO.none _)
  | (with_reducible refine LeO.ite ?_ ?_)
  | (with_reducible refine LeO.bind ?_ (fun _ => ?_))
  | exact pdu_packed.mono _ _
  | exact LeO.none _
  | refine LeO.ite ?_ ?_
  | refine LeO.bind ?_ (fun _ => ?_)
def pdu_Bytes.T14 : Bool × List (List Nat × List Nat) := (true, [([], []), ([], []), ([1], [1]), ([2], [2]), ([0, 3], [0, 3]), ([], []), ([5], [5]), ([6, 4], [6]), ([4, 7, 7], [4, 7]), ([8, 8, 0, 1, 2, 3, 4, 5, 6, 7, 8], [0, 8])])
def pdu_Bytes.B14 : List Nat := [0, 0, 2, 6, 15, 0, 32, 127, 255, 511]
theorem pdu_Bytes.tab14 : rtab .any (opsOf Try.f64 14) = pdu_Bytes.T14 := by kernel_rfl
theorem pdu_Bytes.bits14 : waitsOk pdu_Bytes.T14.2 pdu_Bytes.B14 = true := by kernel_rfl
def pdu_Bytes.T19 : Bool × List (List Nat × List Nat) := (true, [([], []), ([], []), ([1], [1]), ([2], [2]), ([0, 3], [0, 3]), ([], []), ([5], [5]), ([6, 4], [6]), ([4, 7, 7], [4, 7]), ([8, 8, 0, 1, 2, 3, 4, 5, 6, 7, 8], [0, 8])])
def pdu_Bytes.B19 : List Nat := [0, 0, 2, 6, 15, 0, 32, 127, 255, 511]
theorem pdu_Bytes.tab19 : rtab .any (opsOf Try.f64 19) = pdu_Bytes.T19 := by kernel_rfl
theorem pdu_Bytes.bits19 : waitsOk pdu_Bytes.T19.2 pdu_Bytes.B19 = true := by kernel_rfl
set_option maxHeartbeats 8000000 in
set_option maxRecDepth 100000 in
theorem pdu_Bytes.calls (k : Nat) (a0_0 : Int) (a0_1 : Int) (a0_2 : Int) (A0_3 : Option Addr) (c0_3 : Nat) (l0_3 : List Int) (a0_4 : Int) (a0_5 : Int) (a0_6 : Int) (r1 : List Int) (r2 : Int) (w : World) (hr0_3 : Kd.C (Kd.int .i64) w A0_3 l0_3.length l0_3) (hc0_3 : l0_3.length ≤ c0_3) (h : pdu_Bytes.f k a0_0 a0_1 a0_2 l0_3 a0_4 a0_5 a0_6 = some (r1, r2)) :
 Calls Try.prog 64 #[.agg #[.int .i64 a0_0, .int .i64 a0_1, .int .i64 a0_2, .slice A0_3 l0_3.length c0_3, .int .i64 a0_4, .int .i64 a0_5, .int .i64 a0_6]] w fun e w' => ∃ v0_ : Value, e = .returned (.tuple #[v0_, .int .i64 r2]) ∧ Kd.R (Kd.int .u8) 5 w' w.heap.size (fun _ => True) v0_ r1 ∧ Below w.heap.size w w' := by
 have hu31 := Try.underlying31
 have HR0_3 := Aside0.mk hr0_3
 have HC0_3 := Aside0.mk hc0_3
 clear hr0_3 hc0_3
 have HB := Aside0.mk (Below.refl w.heap.size w)
 have H : ((pdu_Check.f a0_0 a0_1 a0_2 l0_3 a0_4 a0_5 a0_6).bind fun t142 => (if t142 = 0 then ((pdu_lay.f (([(a0_0) % 256] : List Int)) (([a0_1] : List Int))).bind fun t149 => (if a0_0 = 5 then (if 0 < (l0_3.length : Int) then ((pdu_lay.f t149 (([wrap64 (65280 * (rd l0_3 0))] : List Int))).bind fun t156 => (some (t156, 0))) else (none)) else (if a0_0 = 6 then (if 0 < (l0_3.length : Int) then ((pdu_lay.f t149 (([rd l0_3 0] : List Int))).bind fun t163 => (some (t163, 0))) else (none)) else (if a0_0 = 22 then ((pdu_lay.f t149 (([a0_5, a0_6] : List Int))).bind fun t169 => (some (t169, 0))) else (if a0_0 = 15 then ((pdu_lay.f t149 (([a0_2] : List Int))).bind fun t175 => ((pdu_packed.f k l0_3).bind fun t178 => ((pdu_counted.f t175 t178).bind fun t181 => (some (t181, 0))))) else (if a0_0 = 23 then ((pdu_lay.f t149 (([a0_2, a0_4, (l0_3.length : Int)] : List Int))).bind fun t187 => ((pdu_lay.f ([] : List Int) l0_3).bind fun t190 => ((pdu_counted.f t187 t190).bind fun t193 => (some (t193, 0))))) else (if a0_0 = 16 then ((pdu_lay.f t149 (([a0_2] : List Int))).bind fun t199 => ((pdu_lay.f ([] : List Int) l0_3).bind fun t202 => ((pdu_counted.f t199 t202).bind fun t205 => (some (t205, 0))))) else ((pdu_lay.f t149 (([a0_2] : List Int))).bind fun t211 => (some (t211, 0)))))))))) else (some (([] : List Int), t142)))) = some (r1, r2) := h
 clear h
 replace H := Option.bind_eq_some_iff.mp H
 obtain ⟨t142, A20, H⟩ := H
 replace H : (if t142 = 0 then ((pdu_lay.f (([(a0_0) % 256] : List Int)) (([a0_1] : List Int))).bind fun t149 => (if a0_0 = 5 then (if 0 < (l0_3.length : Int) then ((pdu_lay.f t149 (([wrap64 (65280 * (rd l0_3 0))] : List Int))).bind fun t156 => (some (t156, 0))) else (none)) else (if a0_0 = 6 then (if 0 < (l0_3.length : Int) then ((pdu_lay.f t149 (([rd l0_3 0] : List Int))).bind fun t163 => (some (t163, 0))) else (none)) else (if a0_0 = 22 then ((pdu_lay.f t149 (([a0_5, a0_6] : List Int))).bind fun t169 => (some (t169, 0))) else (if a0_0 = 15 then ((pdu_lay.f t149 (([a0_2] : List Int))).bind fun t175 => ((pdu_packed.f k l0_3).bind fun t178 => ((pdu_counted.f t175 t178).bind fun t181 => (some (t181, 0))))) else (if a0_0 = 23 then ((pdu_lay.f t149 (([a0_2, a0_4, (l0_3.length : Int)] : List Int))).bind fun t187 => ((pdu_lay.f ([] : List Int) l0_3).bind fun t190 => ((pdu_counted.f t187 t190).bind fun t193 => (some (t193, 0))))) else (if a0_0 = 16 then ((pdu_lay.f t149 (([a0_2] : List Int))).bind fun t199 => ((pdu_lay.f ([] : List Int) l0_3).bind fun t202 => ((pdu_counted.f t199 t202).bind fun t205 => (some (t205, 0))))) else ((pdu_lay.f t149 (([a0_2] : List Int))).bind fun t211 => (some (t211, 0)))))))))) else (some (([] : List Int), t142))) = some (r1, r2) := H
 have A2 := Aside0.mk A20
 clear A20
 by_cases c3 : t142 = 0
 ·rw [if_pos c3] at H
  have c3b0 : (t142 == 0) = true := beq_iff_eq.mpr c3
  have c3b1 : (t142 != 0) = false := bne_eq_false_iff_eq.mpr c3
  clear c3
  obtain ⟨y143, hy143⟩ : ∃ y_ : List Int, y_ = (([(a0_0) % 256] : List Int)) := ⟨_, rfl⟩
  replace H : ((pdu_lay.f y143 (([a0_1] : List Int))).bind fun t149 => (if a0_0 = 5 then (if 0 < (l0_3.length : Int) then ((pdu_lay.f t149 (([wrap64 (65280 * (rd l0_3 0))] : List Int))).bind fun t156 => (some (t156, 0))) else (none)) else (if a0_0 = 6 then (if 0 < (l0_3.length : Int) then ((pdu_lay.f t149 (([rd l0_3 0] : List Int))).bind fun t163 => (some (t163, 0))) else (none)) else (if a0_0 = 22 then ((pdu_lay.f t149 (([a0_5, a0_6] : List Int))).bind fun t169 => (some (t169, 0))) else (if a0_0 = 15 then ((pdu_lay.f t149 (([a0_2] : List Int))).bind fun t175 => ((pdu_packed.f k l0_3).bind fun t178 => ((pdu_counted.f t175 t178).bind fun t181 => (some (t181, 0))))) else (if a0_0 = 23 then ((pdu_lay.f t149 (([a0_2, a0_4, (l0_3.length : Int)] : List Int))).bind fun t187 => ((pdu_lay.f ([] : List Int) l0_3).bind fun t190 => ((pdu_counted.f t187 t190).bind fun t193 => (some (t193, 0))))) else (if a0_0 = 16 then ((pdu_lay.f t149 (([a0_2] : List Int))).bind fun t199 => ((pdu_lay.f ([] : List Int) l0_3).bind fun t202 => ((pdu_counted.f t199 t202).bind fun t205 => (some (t205, 0))))) else ((pdu_lay.f t149 (([a0_2] : List Int))).bind fun t211 => (some (t211, 0)))))))))) = some (r1, r2) := by first | (rw [hy143]; with_reducible exact H) | (have H2_ := (Option.bind_some _ _).symm.trans H; rw [hy143]; with_reducible exact H2_) | (have H2_ := (Option.bind_some _ _).symm.trans H; with_reducible exact H2_) | with_reducible exact H | (rw [hy143]; exact H) | exact H
  have Ny143 := Aside0.mk hy143
  clear hy143
  obtain ⟨y146, hy146⟩ : ∃ y_ : List Int, y_ = (([a0_1] : List Int)) := ⟨_, rfl⟩
  replace H : ((pdu_lay.f y143 y146).bind fun t149 => (if a0_0 = 5 then (if 0 < (l0_3.length : Int) then ((pdu_lay.f t149 (([wrap64 (65280 * (rd l0_3 0))] : List Int))).bind fun t156 => (some (t156, 0))) else (none)) else (if a0_0 = 6 then (if 0 < (l0_3.length : Int) then ((pdu_lay.f t149 (([rd l0_3 0] : List Int))).bind fun t163 => (some (t163, 0))) else (none)) else (if a0_0 = 22 then ((pdu_lay.f t149 (([a0_5, a0_6] : List Int))).bind fun t169 => (some (t169, 0))) else (if a0_0 = 15 then ((pdu_lay.f t149 (([a0_2] : List Int))).bind fun t175 => ((pdu_packed.f k l0_3).bind fun t178 => ((pdu_counted.f t175 t178).bind fun t181 => (some (t181, 0))))) else (if a0_0 = 23 then ((pdu_lay.f t149 (([a0_2, a0_4, (l0_3.length : Int)] : List Int))).bind fun t187 => ((pdu_lay.f ([] : List Int) l0_3).bind fun t190 => ((pdu_counted.f t187 t190).bind fun t193 => (some (t193, 0))))) else (if a0_0 = 16 then ((pdu_lay.f t149 (([a0_2] : List Int))).bind fun t199 => ((pdu_lay.f ([] : List Int) l0_3).bind fun t202 => ((pdu_counted.f t199 t202).bind fun t205 => (some (t205, 0))))) else ((pdu_lay.f t149 (([a0_2] : List Int))).bind fun t211 => (some (t211, 0)))))))))) = some (r1, r2) := by first | (rw [hy146]; with_reducible exact H) | (have H2_ := (Option.bind_some _ _).symm.trans H; rw [hy146]; with_reducible exact H2_) | (have H2_ := (Option.bind_some _ _).symm.trans H; with_reducible exact H2_) | with_reducible exact H | (rw [hy146]; exact H) | exact H
  have Ny146 := Aside0.mk hy146
  clear hy146
  replace H := Option.bind_eq_some_iff.mp H
  obtain ⟨t149, A40, H⟩ := H
  replace H : (if a0_0 = 5 then (if 0 < (l0_3.length : Int) then ((pdu_lay.f t149 (([wrap64 (65280 * (rd l0_3 0))] : List Int))).bind fun t156 => (some (t156, 0))) else (none)) else (if a0_0 = 6 then (if 0 < (l0_3.length : Int) then ((pdu_lay.f t149 (([rd l0_3 0] : List Int))).bind fun t163 => (some (t163, 0))) else (none)) else (if a0_0 = 22 then ((pdu_lay.f t149 (([a0_5, a0_6] : List Int))).bind fun t169 => (some (t169, 0))) else (if a0_0 = 15 then ((pdu_lay.f t149 (([a0_2] : List Int))).bind fun t175 => ((pdu_packed.f k l0_3).bind fun t178 => ((pdu_counted.f t175 t178).bind fun t181 => (some (t181, 0))))) else (if a0_0 = 23 then ((pdu_lay.f t149 (([a0_2, a0_4, (l0_3.length : Int)] : List Int))).bind fun t187 => ((pdu_lay.f ([] : List Int) l0_3).bind fun t190 => ((pdu_counted.f t187 t190).bind fun t193 => (some (t193, 0))))) else (if a0_0 = 16 then ((pdu_lay.f t149 (([a0_2] : List Int))).bind fun t199 => ((pdu_lay.f ([] : List Int) l0_3).bind fun t202 => ((pdu_counted.f t199 t202).bind fun t205 => (some (t205, 0))))) else ((pdu_lay.f t149 (([a0_2] : List Int))).bind fun t211 => (some (t211, 0))))))))) = some (r1, r2) := H
  have A4 := Aside0.mk A40
  clear A40
  by_cases c5 : a0_0 = 5
  ·rw [if_pos c5] at H
   have c5b0 : (a0_0 == 5) = true := beq_iff_eq.mpr c5
   have c5b1 : (a0_0 != 5) = false := bne_eq_false_iff_eq.mpr c5
   clear c5
   by_cases c6 : 0 < (l0_3.length : Int)
   ·rw [if_pos c6] at H
    have c6b0 : decide (0 < (l0_3.length : Int)) = true := decide_eq_true c6
    have c6b1 : decide (0 < l0_3.length) = true := decide_eq_true (by omega)
    clear c6
    obtain ⟨y153, hy153⟩ : ∃ y_ : List Int, y_ = (([wrap64 (65280 * (rd l0_3 0))] : List Int)) := ⟨_, rfl⟩
    replace H : ((pdu_lay.f t149 y153).bind fun t156 => (some (t156, 0))) = some (r1, r2) := by first | (rw [hy153]; with_reducible exact H) | (have H2_ := (Option.bind_some _ _).symm.trans H; rw [hy153]; with_reducible exact H2_) | (have H2_ := (Option.bind_some _ _).symm.trans H; with_reducible exact H2_) | with_reducible exact H | (rw [hy153]; exact H) | exact H
    have Ny153 := Aside0.mk hy153
    clear hy153
    replace H := Option.bind_eq_some_iff.mp H
    obtain ⟨t156, A70, H⟩ := H
    replace H : (some (t156, 0)) = some (r1, r2) := H
    have A7 := Aside0.mk A70
    clear A70
    simp only [Option.some.injEq, Prod.mk.injEq] at H
    obtain ⟨rfl, rfl⟩ := H
    go_enter Try.func64, Try.ntmps64
    go_wp2_with (first | ((with_reducible refine gate_dst (N := 1) rfl ?_); refine bx_ (N := 1) (cs := #[.int .i64 a0_0, .int .i64 a0_1, .int .i64 a0_2, .slice A0_3 l0_3.length c0_3, .int .i64 a0_4, .int .i64 a0_5, .int .i64 a0_6]) (t := 31) ?_; intro gb141 hg w8 hbox hb; have n0_ := Aside0.mk (below_step (bl0_ HB) hb); have n1_ := Aside0.mk (hbox); have n2_ := Aside0.mk ((by rw [hg]; exact (below_size (bl0_ HB)) : w.heap.size ≤ gb141)); have n3_ := Aside0.mk ((by rw [hg]; exact (below_size (bl0_ HB)) : w.heap.size ≤ gb141)); clear HB; have HB := n0_; have BK141 := n1_; have GW141 := n2_; have GE141 := n3_; clear n0_ n1_ n2_ n3_; clear hb hbox hg; refine cz7_ BK141.out ?_; intro hcz9_0 hcz9_1 hcz9_2 hcz9_3 hcz9_4 hcz9_5 hcz9_6 hfz9_0 hfz9_1 hfz9_2 hfz9_3 hfz9_4 hfz9_5 hfz9_6) | ((with_reducible refine gate_callee (f := 29) rfl ?_); refine goesL_ (some 7) rfl rfl Try.func29 (by kernel_rfl) rfl #[.agg #[.int .i64 a0_0, .int .i64 a0_1, .int .i64 a0_2, .slice A0_3 l0_3.length c0_3, .int .i64 a0_4, .int .i64 a0_5, .int .i64 a0_6]] rfl ar_ ?_; (with_reducible refine (pdu_Check.calls a0_0 a0_1 a0_2 _ _ l0_3 a0_4 a0_5 a0_6 t142 _ ?side1 ?side2 A2.out).mono ?_); (case side1 => exact sc_ (Kd.C_below HR0_3.out HB.out)); (case side2 => exact HC0_3.out); rintro e w10 ⟨rfl, hb⟩; refine ⟨_, rfl, ?_⟩; have n0_ := Aside0.mk (blk_below (g := gb141) (bk_ BK141) hb); have n1_ := Aside0.mk (below_step (bl1_ HB GE141) hb); clear BK141; clear HB; have BK141 := n0_; have HB := n1_; clear n0_ n1_; (try clear hb); (try clear hb2); (try clear hk); (try clear hi); refine cz7_ BK141.out ?_; intro hcz11_0 hcz11_1 hcz11_2 hcz11_3 hcz11_4 hcz11_5 hcz11_6 hfz11_0 hfz11_1 hfz11_2 hfz11_3 hfz11_4 hfz11_5 hfz11_6) | ((with_reducible refine gate_dst (N := 14) rfl ?_); refine Kd.R_lit (Kd.int .u8) _ 5 ?hg (N := 14) ?hd (xs := ([(a0_0) % 256] : List Int)) (inner := [.int .u8 ((a0_0) % 256)]) (ok := fun _ => True) (okp := fun _ => True) ?hr ?hp (fun _ hk => hk) trivial (Below.refl _ _) (Nat.le_refl _) (by simp) ?_; (case hd => rfl); (case hg => rfl); (case hr => first | (go_simp; done) | (go_simp; rfl)); (case hp => exact (Reps.one (show Kd.M (Kd.int .u8) _ _ _ ((a0_0) % 256) [.int .u8 ((a0_0) % 256)] from rfl) (Reps.none _ _))); intro v144 w12 ho13 hb hg_ hnew_; clear hg_ hnew_; (first | rw [← Ny143.out] at ho13 | (simp only [Int.reduceToNat] at ho13; rw [← Ny143.out] at ho13)); have n0_ := Aside0.mk (Kd.R_lower ho13 (below_size (bl1_ HB GE141))); have n1_ := Aside0.mk (blk_below (g := gb141) (bk_ BK141) hb); have n2_ := Aside0.mk (below_step (bl1_ HB GE141) hb); clear BK141; clear HB; have HO145 := n0_; have BK141 := n1_; have HB := n2_; clear n0_ n1_ n2_; clear hb ho13; refine cz7_ BK141.out ?_; intro hcz14_0 hcz14_1 hcz14_2 hcz14_3 hcz14_4 hcz14_5 hcz14_6 hfz14_0 hfz14_1 hfz14_2 hfz14_3 hfz14_4 hfz14_5 hfz14_6) | ((with_reducible refine gate_dst (N := 17) rfl ?_); refine Kd.R_lit (Kd.int .i64) _ 3 ?hg (N := 17) ?hd (xs := ([a0_1] : List Int)) (inner := [.int .i64 a0_1]) (ok := fun _ => True) (okp := fun _ => True) ?hr ?hp (fun _ hk => hk) trivial (Below.refl _ _) (Nat.le_refl _) (by simp) ?_; (case hd => rfl); (case hg => rfl); (case hr => first | (go_simp; done) | (go_simp; rfl)); (case hp => exact (Reps.one (show Kd.M (Kd.int .i64) _ _ _ a0_1 [.int .i64 a0_1] from rfl) (Reps.none _ _))); intro v147 w15 ho16 hb hg_ hnew_; clear hg_ hnew_; (first | rw [← Ny146.out] at ho16 | (simp only [Int.reduceToNat] at ho16; rw [← Ny146.out] at ho16)); have n0_ := Aside0.mk (Kd.R_below (kr_ HO145) hb); have n1_ := Aside0.mk (Kd.R_lower ho16 (below_size (bl1_ HB GE141))); have n2_ := Aside0.mk (blk_below (g := gb141) (bk_ BK141) hb); have n3_ := Aside0.mk (below_step (bl1_ HB GE141) hb); clear HO145; clear BK141; clear HB; have HO145 := n0_; have HO148 := n1_; have BK141 := n2_; have HB := n3_; clear n0_ n1_ n2_ n3_; clear hb ho16; obtain ⟨Ao17, co17, eo17⟩ := Kd.R_slice HO145.out; subst eo17; obtain ⟨Ao18, co18, eo18⟩ := Kd.R_slice HO148.out; subst eo18) | ((with_reducible refine gate_callee (f := 63) rfl ?_); refine goesL_ (some 18) rfl rfl Try.func63 (by kernel_rfl) rfl #[.slice Ao17 y143.length co17, .slice Ao18 y146.length co18] rfl ar_ ?_; (with_reducible refine (pdu_lay.calls _ _ y143 _ _ y146 t149 _ ?side1 ?side2 ?side3 ?side4 A4.out).mono ?_); (case side1 => exact sc_ (Kd.R_reads' HO145.out).2.2); (case side2 => exact (Kd.R_reads' HO145.out).2.1); (case side3 => exact sc_ (Kd.R_reads' HO148.out).2.2); (case side4 => exact (Kd.R_reads' HO148.out).2.1); rintro e w19 ⟨v150, rfl, ho0, hb⟩; refine ⟨_, rfl, ?_⟩; have n0_ := Aside0.mk (Kd.R_elder' (kr_ HO145) (Kd.R_base ho0) hb); have n1_ := Aside0.mk (Kd.R_below (kr_ HO148) hb); have n2_ := Aside0.mk (Kd.R_lower (Kd.R_new' ho0 (Kd.R_lt (kr_ HO145))) (below_size (bl1_ HB GE141))); have n3_ := Aside0.mk (blk_below (g := gb141) (bk_ BK141) hb); have n4_ := Aside0.mk (below_step (bl1_ HB GE141) hb); clear HO145; clear HO148; clear BK141; clear HB; have HO145 := n0_; have HO148 := n1_; have HO151 := n2_; have BK141 := n3_; have HB := n4_; clear n0_ n1_ n2_ n3_ n4_; (try clear hb); (try clear hb2); (try clear hk); (try clear hi); (try clear ho0); refine cz7_ BK141.out ?_; intro hcz20_0 hcz20_1 hcz20_2 hcz20_3 hcz20_4 hcz20_5 hcz20_6 hfz20_0 hfz20_1 hfz20_2 hfz20_3 hfz20_4 hfz20_5 hfz20_6; have p152 : 0 ≤ (0 : Int) := (by omega); have q152 : 0 < (l0_3.length : Int) := of_decide_eq_true (by first | (with_reducible assumption) | assumption); obtain ⟨ad152, e152, hx152_0⟩ := Kd.at_int HR0_3.out 0 p152 q152; cases e152; have qi152 : (0 < l0_3.length) = True := eq_true (by omega); (try rw [show ((0 : Int)).toNat = 0 from rfl] at hx152_0); (try rw [Addr.add_zero'] at hx152_0); replace hx152_0 := (HB.out.cell (World.block_lt_of_cell? w _ hx152_0)).trans hx152_0; replace p152 := eq_true p152; replace q152 := eq_true q152) | ((with_reducible refine gate_dst (N := 34) rfl ?_); refine Kd.R_lit (Kd.int .i64) _ 3 ?hg (N := 34) ?hd (xs := ([wrap64 (65280 * (rd l0_3 0))] : List Int)) (inner := [.int .i64 (wrap64 (65280 * (rd l0_3 0)))]) (ok := fun _ => True) (okp := fun _ => True) ?hr ?hp (fun _ hk => hk) trivial (Below.refl _ _) (Nat.le_refl _) (by simp) ?_; (case hd => rfl); (case hg => rfl); (case hr => first | (go_simp; done) | (go_simp; rfl)); (case hp => exact (Reps.one (show Kd.M (Kd.int .i64) _ _ _ (wrap64 (65280 * (rd l0_3 0))) [.int .i64 (wrap64 (65280 * (rd l0_3 0)))] from rfl) (Reps.none _ _))); intro v154 w21 ho22 hb hg_ hnew_; clear hg_ hnew_; (first | rw [← Ny153.out] at ho22 | (simp only [Int.reduceToNat] at ho22; rw [← Ny153.out] at ho22)); have n0_ := Aside0.mk (Kd.R_below (kr_ HO145) hb); have n1_ := Aside0.mk (Kd.R_elder' (kr_ HO148) (Kd.R_base ho22) hb); have n2_ := Aside0.mk (Kd.R_below (kr_ HO151) hb); have n3_ := Aside0.mk (Kd.R_lower (Kd.R_new' ho22 (Kd.R_lt (kr_ HO148))) (below_size (bl1_ HB GE141))); have n4_ := Aside0.mk (blk_below (g := gb141) (bk_ BK141) hb); have n5_ := Aside0.mk (below_step (bl1_ HB GE141) hb); clear HO145; clear HO148; clear HO151; clear BK141; clear HB; have HO145 := n0_; have HO148 := n1_; have HO151 := n2_; have HO155 := n3_; have BK141 := n4_; have HB := n5_; clear n0_ n1_ n2_ n3_ n4_ n5_; clear hb ho22; obtain ⟨Ao23, co23, eo23⟩ := Kd.R_slice HO151.out; subst eo23; obtain ⟨Ao24, co24, eo24⟩ := Kd.R_slice HO155.out; subst eo24) | ((with_reducible refine gate_callee (f := 63) rfl ?_); refine goesL_ (some 35) rfl rfl Try.func63 (by kernel_rfl) rfl #[.slice Ao23 t149.length co23, .slice Ao24 y153.length co24] rfl ar_ ?_; (with_reducible refine (pdu_lay.calls _ _ t149 _ _ y153 t156 _ ?side1 ?side2 ?side3 ?side4 A7.out).mono ?_); (case side1 => exact sc_ (Kd.R_reads' HO151.out).2.2); (case side2 => exact (Kd.R_reads' HO151.out).2.1); (case side3 => exact sc_ (Kd.R_reads' HO155.out).2.2); (case side4 => exact (Kd.R_reads' HO155.out).2.1); rintro e w25 ⟨v157, rfl, ho0, hb⟩; refine ⟨_, rfl, ?_⟩; have n0_ := Aside0.mk (Kd.R_elder' (kr_ HO145) (Kd.R_base ho0) hb); have n1_ := Aside0.mk (Kd.R_below (kr_ HO148) hb); have n2_ := Aside0.mk (Kd.R_elder' (kr_ HO151) (Kd.R_base ho0) hb); have n3_ := Aside0.mk (Kd.R_below (kr_ HO155) hb); have n4_ := Aside0.mk (Kd.R_lower (Kd.R_new' (Kd.R_new' ho0 (Kd.R_lt (kr_ HO145))) (Kd.R_lt (kr_ HO151))) (below_size (bl1_ HB GE141))); have n5_ := Aside0.mk (blk_below (g := gb141) (bk_ BK141) hb); have n6_ := Aside0.mk (below_step (bl1_ HB GE141) hb); clear HO145; clear HO148; clear HO151; clear HO155; clear BK141; clear HB; have HO145 := n0_; have HO148 := n1_; have HO151 := n2_; have HO155 := n3_; have HO158 := n4_; have BK141 := n5_; have HB := n6_; clear n0_ n1_ n2_ n3_ n4_ n5_ n6_; (try clear hb); (try clear hb2); (try clear hk); (try clear hi); (try clear ho0)))
    go_ret2
    exact ⟨_, er_, by (with_reducible repeat (first | apply Kd.R_alloc | apply Kd.R_drewN | apply Kd.R_drew)); exact Kd.R_mono HO158.out (fun _ hk => trivial), bl1_ HB GE141⟩
   ·rw [if_neg c6] at H
    exact absurd H (by simp)
  ·rw [if_neg c5] at H
   have c5b0 : (a0_0 == 5) = false := beq_eq_false_iff_ne.mpr c5
   have c5b1 : (a0_0 != 5) = true := bne_iff_ne.mpr c5
   by_cases c26 : a0_0 = 6
   ·rw [if_pos c26] at H
    have c26b0 : (a0_0 == 6) = true := beq_iff_eq.mpr c26
    have c26b1 : (a0_0 != 6) = false := bne_eq_false_iff_eq.mpr c26
    clear c26
    by_cases c27 : 0 < (l0_3.length : Int)
    ·rw [if_pos c27] at H
     have c27b0 : decide (0 < (l0_3.length : Int)) = true := decide_eq_true c27
     have c27b1 : decide (0 < l0_3.length) = true := decide_eq_true (by omega)
     clear c27
     obtain ⟨y160, hy160⟩ : ∃ y_ : List Int, y_ = (([rd l0_3 0] : List Int)) := ⟨_, rfl⟩
     replace H : ((pdu_lay.f t149 y160).bind fun t163 => (some (t163, 0))) = some (r1, r2) := by first | (rw [hy160]; with_reducible exact H) | (have H2_ := (Option.bind_some _ _).symm.trans H; rw [hy160]; with_reducible exact H2_) | (have H2_ := (Option.bind_some _ _).symm.trans H; with_reducible exact H2_) | with_reducible exact H | (rw [hy160]; exact H) | exact H
     have Ny160 := Aside0.mk hy160
     clear hy160
     replace H := Option.bind_eq_some_iff.mp H
     obtain ⟨t163, A280, H⟩ := H
     replace H : (some (t163, 0)) = some (r1, r2) := H
     have A28 := Aside0.mk A280
     clear A280
     simp only [Option.some.injEq, Prod.mk.injEq] at H
     obtain ⟨rfl, rfl⟩ := H
     go_enter Try.func64, Try.ntmps64
     go_wp2_with (first | ((with_reducible refine gate_dst (N := 1) rfl ?_); refine bx_ (N := 1) (cs := #[.int .i64 a0_0, .int .i64 a0_1, .int .i64 a0_2, .slice A0_3 l0_3.length c0_3, .int .i64 a0_4, .int .i64 a0_5, .int .i64 a0_6]) (t := 31) ?_; intro gb141 hg w29 hbox hb; have n0_ := Aside0.mk (below_step (bl0_ HB) hb); have n1_ := Aside0.mk (hbox); have n2_ := Aside0.mk ((by rw [hg]; exact (below_size (bl0_ HB)) : w.heap.size ≤ gb141)); have n3_ := Aside0.mk ((by rw [hg]; exact (below_size (bl0_ HB)) : w.heap.size ≤ gb141)); clear HB; have HB := n0_; have BK141 := n1_; have GW141 := n2_; have GE141 := n3_; clear n0_ n1_ n2_ n3_; clear hb hbox hg; refine cz7_ BK141.out ?_; intro hcz30_0 hcz30_1 hcz30_2 hcz30_3 hcz30_4 hcz30_5 hcz30_6 hfz30_0 hfz30_1 hfz30_2 hfz30_3 hfz30_4 hfz30_5 hfz30_6) | ((with_reducible refine gate_callee (f := 29) rfl ?_); refine goesL_ (some 7) rfl rfl Try.func29 (by kernel_rfl) rfl #[.agg #[.int .i64 a0_0, .int .i64 a0_1, .int .i64 a0_2, .slice A0_3 l0_3.length c0_3, .int .i64 a0_4, .int .i64 a0_5, .int .i64 a0_6]] rfl ar_ ?_; (with_reducible refine (pdu_Check.calls a0_0 a0_1 a0_2 _ _ l0_3 a0_4 a0_5 a0_6 t142 _ ?side1 ?side2 A2.out).mono ?_); (case side1 => exact sc_ (Kd.C_below HR0_3.out HB.out)); (case side2 => exact HC0_3.out); rintro e w31 ⟨rfl, hb⟩; refine ⟨_, rfl, ?_⟩; have n0_ := Aside0.mk (blk_below (g := gb141) (bk_ BK141) hb); have n1_ := Aside0.mk (below_step (bl1_ HB GE141) hb); clear BK141; clear HB; have BK141 := n0_; have HB := n1_; clear n0_ n1_; (try clear hb); (try clear hb2); (try clear hk); (try clear hi); refine cz7_ BK141.out ?_; intro hcz32_0 hcz32_1 hcz32_2 hcz32_3 hcz32_4 hcz32_5 hcz32_6 hfz32_0 hfz32_1 hfz32_2 hfz32_3 hfz32_4 hfz32_5 hfz32_6) | ((with_reducible refine gate_dst (N := 14) rfl ?_); refine Kd.R_lit (Kd.int .u8) _ 5 ?hg (N := 14) ?hd (xs := ([(a0_0) % 256] : List Int)) (inner := [.int .u8 ((a0_0) % 256)]) (ok := fun _ => True) (okp := fun _ => True) ?hr ?hp (fun _ hk => hk) trivial (Below.refl _ _) (Nat.le_refl _) (by simp) ?_; (case hd => rfl); (case hg => rfl); (case hr => first | (go_simp; done) | (go_simp; rfl)); (case hp => exact (Reps.one (show Kd.M (Kd.int .u8) _ _ _ ((a0_0) % 256) [.int .u8 ((a0_0) % 256)] from rfl) (Reps.none _ _))); intro v144 w33 ho34 hb hg_ hnew_; clear hg_ hnew_; (first | rw [← Ny143.out] at ho34 | (simp only [Int.reduceToNat] at ho34; rw [← Ny143.out] at ho34)); have n0_ := Aside0.mk (Kd.R_lower ho34 (below_size (bl1_ HB GE141))); have n1_ := Aside0.mk (blk_below (g := gb141) (bk_ BK141) hb); have n2_ := Aside0.mk (below_step (bl1_ HB GE141) hb); clear BK141; clear HB; have HO145 := n0_; have BK141 := n1_; have HB := n2_; clear n0_ n1_ n2_; clear hb ho34; refine cz7_ BK141.out ?_; intro hcz35_0 hcz35_1 hcz35_2 hcz35_3 hcz35_4 hcz35_5 hcz35_6 hfz35_0 hfz35_1 hfz35_2 hfz35_3 hfz35_4 hfz35_5 hfz35_6) | ((with_reducible refine gate_dst (N := 17) rfl ?_); refine Kd.R_lit (Kd.int .i64) _ 3 ?hg (N := 17) ?hd (xs := ([a0_1] : List Int)) (inner := [.int .i64 a0_1]) (ok := fun _ => True) (okp := fun _ => True) ?hr ?hp (fun _ hk => hk) trivial (Below.refl _ _) (Nat.le_refl _) (by simp) ?_; (case hd => rfl); (case hg => rfl); (case hr => first | (go_simp; done) | (go_simp; rfl)); (case hp => exact (Reps.one (show Kd.M (Kd.int .i64) _ _ _ a0_1 [.int .i64 a0_1] from rfl) (Reps.none _ _))); intro v147 w36 ho37 hb hg_ hnew_; clear hg_ hnew_; (first | rw [← Ny146.out] at ho37 | (simp only [Int.reduceToNat] at ho37; rw [← Ny146.out] at ho37)); have n0_ := Aside0.mk (Kd.R_below (kr_ HO145) hb); have n1_ := Aside0.mk (Kd.R_lower ho37 (below_size (bl1_ HB GE141))); have n2_ := Aside0.mk (blk_below (g := gb141) (bk_ BK141) hb); have n3_ := Aside0.mk (below_step (bl1_ HB GE141) hb); clear HO145; clear BK141; clear HB; have HO145 := n0_; have HO148 := n1_; have BK141 := n2_; have HB := n3_; clear n0_ n1_ n2_ n3_; clear hb ho37; obtain ⟨Ao38, co38, eo38⟩ := Kd.R_slice HO145.out; subst eo38; obtain ⟨Ao39, co39, eo39⟩ := Kd.R_slice HO148.out; subst eo39) | ((with_reducible refine gate_callee (f := 63) rfl ?_); refine goesL_ (some 18) rfl rfl Try.func63 (by kernel_rfl) rfl #[.slice Ao38 y143.length co38, .slice Ao39 y146.length co39] rfl ar_ ?_; (with_reducible refine (pdu_lay.calls _ _ y143 _ _ y146 t149 _ ?side1 ?side2 ?side3 ?side4 A4.out).mono ?_); (case side1 => exact sc_ (Kd.R_reads' HO145.out).2.2); (case side2 => exact (Kd.R_reads' HO145.out).2.1); (case side3 => exact sc_ (Kd.R_reads' HO148.out).2.2); (case side4 => exact (Kd.R_reads' HO148.out).2.1); rintro e w40 ⟨v150, rfl, ho0, hb⟩; refine ⟨_, rfl, ?_⟩; have n0_ := Aside0.mk (Kd.R_elder' (kr_ HO145) (Kd.R_base ho0) hb); have n1_ := Aside0.mk (Kd.R_below (kr_ HO148) hb); have n2_ := Aside0.mk (Kd.R_lower (Kd.R_new' ho0 (Kd.R_lt (kr_ HO145))) (below_size (bl1_ HB GE141))); have n3_ := Aside0.mk (blk_below (g := gb141) (bk_ BK141) hb); have n4_ := Aside0.mk (below_step (bl1_ HB GE141) hb); clear HO145; clear HO148; clear BK141; clear HB; have HO145 := n0_; have HO148 := n1_; have HO151 := n2_; have BK141 := n3_; have HB := n4_; clear n0_ n1_ n2_ n3_ n4_; (try clear hb); (try clear hb2); (try clear hk); (try clear hi); (try clear ho0); refine cz7_ BK141.out ?_; intro hcz41_0 hcz41_1 hcz41_2 hcz41_3 hcz41_4 hcz41_5 hcz41_6 hfz41_0 hfz41_1 hfz41_2 hfz41_3 hfz41_4 hfz41_5 hfz41_6; have p159 : 0 ≤ (0 : Int) := (by omega); have q159 : 0 < (l0_3.length : Int) := of_decide_eq_true (by first | (with_reducible assumption) | assumption); obtain ⟨ad159, e159, hx159_0⟩ := Kd.at_int HR0_3.out 0 p159 q159; cases e159; have qi159 : (0 < l0_3.length) = True := eq_true (by omega); (try rw [show ((0 : Int)).toNat = 0 from rfl] at hx159_0); (try rw [Addr.add_zero'] at hx159_0); replace hx159_0 := (HB.out.cell (World.block_lt_of_cell? w _ hx159_0)).trans hx159_0; replace p159 := eq_true p159; replace q159 := eq_true q159) | ((with_reducible refine gate_dst (N := 43) rfl ?_); refine Kd.R_lit (Kd.int .i64) _ 3 ?hg (N := 43) ?hd (xs := ([rd l0_3 0] : List Int)) (inner := [.int .i64 (rd l0_3 0)]) (ok := fun _ => True) (okp := fun _ => True) ?hr ?hp (fun _ hk => hk) trivial (Below.refl _ _) (Nat.le_refl _) (by simp) ?_; (case hd => rfl); (case hg => rfl); (case hr => first | (go_simp; done) | (go_simp; rfl)); (case hp => exact (Reps.one (show Kd.M (Kd.int .i64) _ _ _ (rd l0_3 0) [.int .i64 (rd l0_3 0)] from rfl) (Reps.none _ _))); intro v161 w42 ho43 hb hg_ hnew_; clear hg_ hnew_; (first | rw [← Ny160.out] at ho43 | (simp only [Int.reduceToNat] at ho43; rw [← Ny160.out] at ho43)); have n0_ := Aside0.mk (Kd.R_below (kr_ HO145) hb); have n1_ := Aside0.mk (Kd.R_elder' (kr_ HO148) (Kd.R_base ho43) hb); have n2_ := Aside0.mk (Kd.R_below (kr_ HO151) hb); have n3_ := Aside0.mk (Kd.R_lower (Kd.R_new' ho43 (Kd.R_lt (kr_ HO148))) (below_size (bl1_ HB GE141))); have n4_ := Aside0.mk (blk_below (g := gb141) (bk_ BK141) hb); have n5_ := Aside0.mk (below_step (bl1_ HB GE141) hb); clear HO145; clear HO148; clear HO151; clear BK141; clear HB; have HO145 := n0_; have HO148 := n1_; have HO151 := n2_; have HO162 := n3_; have BK141 := n4_; have HB := n5_; clear n0_ n1_ n2_ n3_ n4_ n5_; clear hb ho43; obtain ⟨Ao44, co44, eo44⟩ := Kd.R_slice HO151.out; subst eo44; obtain ⟨Ao45, co45, eo45⟩ := Kd.R_slice HO162.out; subst eo45) | ((with_reducible refine gate_callee (f := 63) rfl ?_); refine goesL_ (some 44) rfl rfl Try.func63 (by kernel_rfl) rfl #[.slice Ao44 t149.length co44, .slice Ao45 y160.length co45] rfl ar_ ?_; (with_reducible refine (pdu_lay.calls _ _ t149 _ _ y160 t163 _ ?side1 ?side2 ?side3 ?side4 A28.out).mono ?_); (case side1 => exact sc_ (Kd.R_reads' HO151.out).2.2); (case side2 => exact (Kd.R_reads' HO151.out).2.1); (case side3 => exact sc_ (Kd.R_reads' HO162.out).2.2); (case side4 => exact (Kd.R_reads' HO162.out).2.1); rintro e w46 ⟨v164, rfl, ho0, hb⟩; refine ⟨_, rfl, ?_⟩; have n0_ := Aside0.mk (Kd.R_elder' (kr_ HO145) (Kd.R_base ho0) hb); have n1_ := Aside0.mk (Kd.R_below (kr_ HO148) hb); have n2_ := Aside0.mk (Kd.R_elder' (kr_ HO151) (Kd.R_base ho0) hb); have n3_ := Aside0.mk (Kd.R_below (kr_ HO162) hb); have n4_ := Aside0.mk (Kd.R_lower (Kd.R_new' (Kd.R_new' ho0 (Kd.R_lt (kr_ HO145))) (Kd.R_lt (kr_ HO151))) (below_size (bl1_ HB GE141))); have n5_ := Aside0.mk (blk_below (g := gb141) (bk_ BK141) hb); have n6_ := Aside0.mk (below_step (bl1_ HB GE141) hb); clear HO145; clear HO148; clear HO151; clear HO162; clear BK141; clear HB; have HO145 := n0_; have HO148 := n1_; have HO151 := n2_; have HO162 := n3_; have HO165 := n4_; have BK141 := n5_; have HB := n6_; clear n0_ n1_ n2_ n3_ n4_ n5_ n6_; (try clear hb); (try clear hb2); (try clear hk); (try clear hi); (try clear ho0)))
     go_ret2
     exact ⟨_, er_, by (with_reducible repeat (first | apply Kd.R_alloc | apply Kd.R_drewN | apply Kd.R_drew)); exact Kd.R_mono HO165.out (fun _ hk => trivial), bl1_ HB GE141⟩
    ·rw [if_neg c27] at H
     exact absurd H (by simp)
   ·rw [if_neg c26] at H
    have c26b0 : (a0_0 == 6) = false := beq_eq_false_iff_ne.mpr c26
    have c26b1 : (a0_0 != 6) = true := bne_iff_ne.mpr c26
    by_cases c47 : a0_0 = 22
    ·rw [if_pos c47] at H
     have c47b0 : (a0_0 == 22) = true := beq_iff_eq.mpr c47
     have c47b1 : (a0_0 != 22) = false := bne_eq_false_iff_eq.mpr c47
     clear c47
     obtain ⟨y166, hy166⟩ : ∃ y_ : List Int, y_ = (([a0_5, a0_6] : List Int)) := ⟨_, rfl⟩
     replace H : ((pdu_lay.f t149 y166).bind fun t169 => (some (t169, 0))) = some (r1, r2) := by first | (rw [hy166]; with_reducible exact H) | (have H2_ := (Option.bind_some _ _).symm.trans H; rw [hy166]; with_reducible exact H2_) | (have H2_ := (Option.bind_some _ _).symm.trans H; with_reducible exact H2_) | with_reducible exact H | (rw [hy166]; exact H) | exact H
     have Ny166 := Aside0.mk hy166
     clear hy166
     replace H := Option.bind_eq_some_iff.mp H
     obtain ⟨t169, A480, H⟩ := H
     replace H : (some (t169, 0)) = some (r1, r2) := H
     have A48 := Aside0.mk A480
     clear A480
     simp only [Option.some.injEq, Prod.mk.injEq] at H
     obtain ⟨rfl, rfl⟩ := H
     go_enter Try.func64, Try.ntmps64
     go_wp2_with (first | ((with_reducible refine gate_dst (N := 1) rfl ?_); refine bx_ (N := 1) (cs := #[.int .i64 a0_0, .int .i64 a0_1, .int .i64 a0_2, .slice A0_3 l0_3.length c0_3, .int .i64 a0_4, .int .i64 a0_5, .int .i64 a0_6]) (t := 31) ?_; intro gb141 hg w49 hbox hb; have n0_ := Aside0.mk (below_step (bl0_ HB) hb); have n1_ := Aside0.mk (hbox); have n2_ := Aside0.mk ((by rw [hg]; exact (below_size (bl0_ HB)) : w.heap.size ≤ gb141)); have n3_ := Aside0.mk ((by rw [hg]; exact (below_size (bl0_ HB)) : w.heap.size ≤ gb141)); clear HB; have HB := n0_; have BK141 := n1_; have GW141 := n2_; have GE141 := n3_; clear n0_ n1_ n2_ n3_; clear hb hbox hg; refine cz7_ BK141.out ?_; intro hcz50_0 hcz50_1 hcz50_2 hcz50_3 hcz50_4 hcz50_5 hcz50_6 hfz50_0 hfz50_1 hfz50_2 hfz50_3 hfz50_4 hfz50_5 hfz50_6) | ((with_reducible refine gate_callee (f := 29) rfl ?_); refine goesL_ (some 7) rfl rfl Try.func29 (by kernel_rfl) rfl #[.agg #[.int .i64 a0_0, .int .i64 a0_1, .int .i64 a0_2, .slice A0_3 l0_3.length c0_3, .int .i64 a0_4, .int .i64 a0_5, .int .i64 a0_6]] rfl ar_ ?_; (with_reducible refine (pdu_Check.calls a0_0 a0_1 a0_2 _ _ l0_3 a0_4 a0_5 a0_6 t142 _ ?side1 ?side2 A2.out).mono ?_); (case side1 => exact sc_ (Kd.C_below HR0_3.out HB.out)); (case side2 => exact HC0_3.out); rintro e w51 ⟨rfl, hb⟩; refine ⟨_, rfl, ?_⟩; have n0_ := Aside0.mk (blk_below (g := gb141) (bk_ BK141) hb); have n1_ := Aside0.mk (below_step (bl1_ HB GE141) hb); clear BK141; clear HB; have BK141 := n0_; have HB := n1_; clear n0_ n1_; (try clear hb); (try clear hb2); (try clear hk); (try clear hi); refine cz7_ BK141.out ?_; intro hcz52_0 hcz52_1 hcz52_2 hcz52_3 hcz52_4 hcz52_5 hcz52_6 hfz52_0 hfz52_1 hfz52_2 hfz52_3 hfz52_4 hfz52_5 hfz52_6) | ((with_reducible refine gate_dst (N := 14) rfl ?_); refine Kd.R_lit (Kd.int .u8) _ 5 ?hg (N := 14) ?hd (xs := ([(a0_0) % 256] : List Int)) (inner := [.int .u8 ((a0_0) % 256)]) (ok := fun _ => True) (okp := fun _ => True) ?hr ?hp (fun _ hk => hk) trivial (Below.refl _ _) (Nat.le_refl _) (by simp) ?_; (case hd => rfl); (case hg => rfl); (case hr => first | (go_simp; done) | (go_simp; rfl)); (case hp => exact (Reps.one (show Kd.M (Kd.int .u8) _ _ _ ((a0_0) % 256) [.int .u8 ((a0_0) % 256)] from rfl) (Reps.none _ _))); intro v144 w53 ho54 hb hg_ hnew_; clear hg_ hnew_; (first | rw [← Ny143.out] at ho54 | (simp only [Int.reduceToNat] at ho54; rw [← Ny143.out] at ho54)); have n0_ := Aside0.mk (Kd.R_lower ho54 (below_size (bl1_ HB GE141))); have n1_ := Aside0.mk (blk_below (g := gb141) (bk_ BK141) hb); have n2_ := Aside0.mk (below_step (bl1_ HB GE141) hb); clear BK141; clear HB; have HO145 := n0_; have BK141 := n1_; have HB := n2_; clear n0_ n1_ n2_; clear hb ho54; refine cz7_ BK141.out ?_; intro hcz55_0 hcz55_1 hcz55_2 hcz55_3 hcz55_4 hcz55_5 hcz55_6 hfz55_0 hfz55_1 hfz55_2 hfz55_3 hfz55_4 hfz55_5 hfz55_6) | ((with_reducible refine gate_dst (N := 17) rfl ?_); refine Kd.R_lit (Kd.int .i64) _ 3 ?hg (N := 17) ?hd (xs := ([a0_1] : List Int)) (inner := [.int .i64 a0_1]) (ok := fun _ => True) (okp := fun _ => True) ?hr ?hp (fun _ hk => hk) trivial (Below.refl _ _) (Nat.le_refl _) (by simp) ?_; (case hd => rfl); (case hg => rfl); (case hr => first | (go_simp; done) | (go_simp; rfl)); (case hp => exact (Reps.one (show Kd.M (Kd.int .i64) _ _ _ a0_1 [.int .i64 a0_1] from rfl) (Reps.none _ _))); intro v147 w56 ho57 hb hg_ hnew_; clear hg_ hnew_; (first | rw [← Ny146.out] at ho57 | (simp only [Int.reduceToNat] at ho57; rw [← Ny146.out] at ho57)); have n0_ := Aside0.mk (Kd.R_below (kr_ HO145) hb); have n1_ := Aside0.mk (Kd.R_lower ho57 (below_size (bl1_ HB GE141))); have n2_ := Aside0.mk (blk_below (g := gb141) (bk_ BK141) hb); have n3_ := Aside0.mk (below_step (bl1_ HB GE141) hb); clear HO145; clear BK141; clear HB; have HO145 := n0_; have HO148 := n1_; have BK141 := n2_; have HB := n3_; clear n0_ n1_ n2_ n3_; clear hb ho57; obtain ⟨Ao58, co58, eo58⟩ := Kd.R_slice HO145.out; subst eo58; obtain ⟨Ao59, co59, eo59⟩ := Kd.R_slice HO148.out; subst eo59) | ((with_reducible refine gate_callee (f := 63) rfl ?_); refine goesL_ (some 18) rfl rfl Try.func63 (by kernel_rfl) rfl #[.slice Ao58 y143.length co58, .slice Ao59 y146.length co59] rfl ar_ ?_; (with_reducible refine (pdu_lay.calls _ _ y143 _ _ y146 t149 _ ?side1 ?side2 ?side3 ?side4 A4.out).mono ?_); (case side1 => exact sc_ (Kd.R_reads' HO145.out).2.2); (case side2 => exact (Kd.R_reads' HO145.out).2.1); (case side3 => exact sc_ (Kd.R_reads' HO148.out).2.2); (case side4 => exact (Kd.R_reads' HO148.out).2.1); rintro e w60 ⟨v150, rfl, ho0, hb⟩; refine ⟨_, rfl, ?_⟩; have n0_ := Aside0.mk (Kd.R_elder' (kr_ HO145) (Kd.R_base ho0) hb); have n1_ := Aside0.mk (Kd.R_below (kr_ HO148) hb); have n2_ := Aside0.mk (Kd.R_lower (Kd.R_new' ho0 (Kd.R_lt (kr_ HO145))) (below_size (bl1_ HB GE141))); have n3_ := Aside0.mk (blk_below (g := gb141) (bk_ BK141) hb); have n4_ := Aside0.mk (below_step (bl1_ HB GE141) hb); clear HO145; clear HO148; clear BK141; clear HB; have HO145 := n0_; have HO148 := n1_; have HO151 := n2_; have BK141 := n3_; have HB := n4_; clear n0_ n1_ n2_ n3_ n4_; (try clear hb); (try clear hb2); (try clear hk); (try clear hi); (try clear ho0); refine cz7_ BK141.out ?_; intro hcz61_0 hcz61_1 hcz61_2 hcz61_3 hcz61_4 hcz61_5 hcz61_6 hfz61_0 hfz61_1 hfz61_2 hfz61_3 hfz61_4 hfz61_5 hfz61_6) | ((with_reducible refine gate_dst (N := 52) rfl ?_); refine Kd.R_lit (Kd.int .i64) _ 3 ?hg (N := 52) ?hd (xs := ([a0_5, a0_6] : List Int)) (inner := [.int .i64 a0_5, .int .i64 a0_6]) (ok := fun _ => True) (okp := fun _ => True) ?hr ?hp (fun _ hk => hk) trivial (Below.refl _ _) (Nat.le_refl _) (by simp) ?_; (case hd => rfl); (case hg => rfl); (case hr => first | (go_simp; done) | (go_simp; rfl)); (case hp => exact (Reps.one (show Kd.M (Kd.int .i64) _ _ _ a0_5 [.int .i64 a0_5] from rfl) (Reps.one (show Kd.M (Kd.int .i64) _ _ _ a0_6 [.int .i64 a0_6] from rfl) (Reps.none _ _)))); intro v167 w62 ho63 hb hg_ hnew_; clear hg_ hnew_; (first | rw [← Ny166.out] at ho63 | (simp only [Int.reduceToNat] at ho63; rw [← Ny166.out] at ho63)); have n0_ := Aside0.mk (Kd.R_below (kr_ HO145) hb); have n1_ := Aside0.mk (Kd.R_elder' (kr_ HO148) (Kd.R_base ho63) hb); have n2_ := Aside0.mk (Kd.R_below (kr_ HO151) hb); have n3_ := Aside0.mk (Kd.R_lower (Kd.R_new' ho63 (Kd.R_lt (kr_ HO148))) (below_size (bl1_ HB GE141))); have n4_ := Aside0.mk (blk_below (g := gb141) (bk_ BK141) hb); have n5_ := Aside0.mk (below_step (bl1_ HB GE141) hb); clear HO145; clear HO148; clear HO151; clear BK141; clear HB; have HO145 := n0_; have HO148 := n1_; have HO151 := n2_; have HO168 := n3_; have BK141 := n4_; have HB := n5_; clear n0_ n1_ n2_ n3_ n4_ n5_; clear hb ho63; obtain ⟨Ao64, co64, eo64⟩ := Kd.R_slice HO151.out; subst eo64; obtain ⟨Ao65, co65, eo65⟩ := Kd.R_slice HO168.out; subst eo65) | ((with_reducible refine gate_callee (f := 63) rfl ?_); refine goesL_ (some 53) rfl rfl Try.func63 (by kernel_rfl) rfl #[.slice Ao64 t149.length co64, .slice Ao65 y166.length co65] rfl ar_ ?_; (with_reducible refine (pdu_lay.calls _ _ t149 _ _ y166 t169 _ ?side1 ?side2 ?side3 ?side4 A48.out).mono ?_); (case side1 => exact sc_ (Kd.R_reads' HO151.out).2.2); (case side2 => exact (Kd.R_reads' HO151.out).2.1); (case side3 => exact sc_ (Kd.R_reads' HO168.out).2.2); (case side4 => exact (Kd.R_reads' HO168.out).2.1); rintro e w66 ⟨v170, rfl, ho0, hb⟩; refine ⟨_, rfl, ?_⟩; have n0_ := Aside0.mk (Kd.R_elder' (kr_ HO145) (Kd.R_base ho0) hb); have n1_ := Aside0.mk (Kd.R_below (kr_ HO148) hb); have n2_ := Aside0.mk (Kd.R_elder' (kr_ HO151) (Kd.R_base ho0) hb); have n3_ := Aside0.mk (Kd.R_below (kr_ HO168) hb); have n4_ := Aside0.mk (Kd.R_lower (Kd.R_new' (Kd.R_new' ho0 (Kd.R_lt (kr_ HO145))) (Kd.R_lt (kr_ HO151))) (below_size (bl1_ HB GE141))); have n5_ := Aside0.mk (blk_below (g := gb141) (bk_ BK141) hb); have n6_ := Aside0.mk (below_step (bl1_ HB GE141) hb); clear HO145; clear HO148; clear HO151; clear HO168; clear BK141; clear HB; have HO145 := n0_; have HO148 := n1_; have HO151 := n2_; have HO168 := n3_; have HO171 := n4_; have BK141 := n5_; have HB := n6_; clear n0_ n1_ n2_ n3_ n4_ n5_ n6_; (try clear hb); (try clear hb2); (try clear hk); (try clear hi); (try clear ho0)))
     go_ret2
     exact ⟨_, er_, by (with_reducible repeat (first | apply Kd.R_alloc | apply Kd.R_drewN | apply Kd.R_drew)); exact Kd.R_mono HO171.out (fun _ hk => trivial), bl1_ HB GE141⟩
    ·rw [if_neg c47] at H
     have c47b0 : (a0_0 == 22) = false := beq_eq_false_iff_ne.mpr c47
     have c47b1 : (a0_0 != 22) = true := bne_iff_ne.mpr c47
     by_cases c67 : a0_0 = 15
     ·rw [if_pos c67] at H
      have c67b0 : (a0_0 == 15) = true := beq_iff_eq.mpr c67
      have c67b1 : (a0_0 != 15) = false := bne_eq_false_iff_eq.mpr c67
      clear c67
      obtain ⟨y172, hy172⟩ : ∃ y_ : List Int, y_ = (([a0_2] : List Int)) := ⟨_, rfl⟩
      replace H : ((pdu_lay.f t149 y172).bind fun t175 => ((pdu_packed.f k l0_3).bind fun t178 => ((pdu_counted.f t175 t178).bind fun t181 => (some (t181, 0))))) = some (r1, r2) := by first | (rw [hy172]; with_reducible exact H) | (have H2_ := (Option.bind_some _ _).symm.trans H; rw [hy172]; with_reducible exact H2_) | (have H2_ := (Option.bind_some _ _).symm.trans H; with_reducible exact H2_) | with_reducible exact H | (rw [hy172]; exact H) | exact H
      have Ny172 := Aside0.mk hy172
      clear hy172
      replace H := Option.bind_eq_some_iff.mp H
      obtain ⟨t175, A680, H⟩ := H
      replace H : ((pdu_packed.f k l0_3).bind fun t178 => ((pdu_counted.f t175 t178).bind fun t181 => (some (t181, 0)))) = some (r1, r2) := H
      have A68 := Aside0.mk A680
      clear A680
      replace H := Option.bind_eq_some_iff.mp H
      obtain ⟨t178, A690, H⟩ := H
      replace H : ((pdu_counted.f t175 t178).bind fun t181 => (some (t181, 0))) = some (r1, r2) := H
      have A69 := Aside0.mk A690
      clear A690
      replace H := Option.bind_eq_some_iff.mp H
      obtain ⟨t181, A700, H⟩ := H
      replace H : (some (t181, 0)) = some (r1, r2) := H
      have A70 := Aside0.mk A700
      clear A700
      simp only [Option.some.injEq, Prod.mk.injEq] at H
      obtain ⟨rfl, rfl⟩ := H
      go_enter Try.func64, Try.ntmps64
      try go_wp2_with (first | ((with_reducible refine gate_dst (N := 1) rfl ?_); refine bx_ (N := 1) (cs := #[.int .i64 a0_0, .int .i64 a0_1, .int .i64 a0_2, .slice A0_3 l0_3.length c0_3, .int .i64 a0_4, .int .i64 a0_5, .int .i64 a0_6]) (t := 31) ?_; intro gb141 hg w71 hbox hb; have n0_ := Aside0.mk (below_step (bl0_ HB) hb); have n1_ := Aside0.mk (hbox); have n2_ := Aside0.mk ((by rw [hg]; exact (below_size (bl0_ HB)) : w.heap.size ≤ gb141)); have n3_ := Aside0.mk ((by rw [hg]; exact (below_size (bl0_ HB)) : w.heap.size ≤ gb141)); clear HB; have HB := n0_; have BK141 := n1_; have GW141 := n2_; have GE141 := n3_; clear n0_ n1_ n2_ n3_; clear hb hbox hg; refine cz7_ BK141.out ?_; intro hcz72_0 hcz72_1 hcz72_2 hcz72_3 hcz72_4 hcz72_5 hcz72_6 hfz72_0 hfz72_1 hfz72_2 hfz72_3 hfz72_4 hfz72_5 hfz72_6) | ((with_reducible refine gate_callee (f := 29) rfl ?_); refine goesL_ (some 7) rfl rfl Try.func29 (by kernel_rfl) rfl #[.agg #[.int .i64 a0_0, .int .i64 a0_1, .int .i64 a0_2, .slice A0_3 l0_3.length c0_3, .int .i64 a0_4, .int .i64 a0_5, .int .i64 a0_6]] rfl ar_ ?_; (with_reducible refine (pdu_Check.calls a0_0 a0_1 a0_2 _ _ l0_3 a0_4 a0_5 a0_6 t142 _ ?side1 ?side2 A2.out).mono ?_); (case side1 => exact sc_ (Kd.C_below HR0_3.out HB.out)); (case side2 => exact HC0_3.out); rintro e w73 ⟨rfl, hb⟩; refine ⟨_, rfl, ?_⟩; have n0_ := Aside0.mk (blk_below (g := gb141) (bk_ BK141) hb); have n1_ := Aside0.mk (below_step (bl1_ HB GE141) hb); clear BK141; clear HB; have BK141 := n0_; have HB := n1_; clear n0_ n1_; (try clear hb); (try clear hb2); (try clear hk); (try clear hi); refine cz7_ BK141.out ?_; intro hcz74_0 hcz74_1 hcz74_2 hcz74_3 hcz74_4 hcz74_5 hcz74_6 hfz74_0 hfz74_1 hfz74_2 hfz74_3 hfz74_4 hfz74_5 hfz74_6) | ((with_reducible refine gate_dst (N := 14) rfl ?_); refine Kd.R_lit (Kd.int .u8) _ 5 ?hg (N := 14) ?hd (xs := ([(a0_0) % 256] : List Int)) (inner := [.int .u8 ((a0_0) % 256)]) (ok := fun _ => True) (okp := fun _ => True) ?hr ?hp (fun _ hk => hk) trivial (Below.refl _ _) (Nat.le_refl _) (by simp) ?_; (case hd => rfl); (case hg => rfl); (case hr => first | (go_simp; done) | (go_simp; rfl)); (case hp => exact (Reps.one (show Kd.M (Kd.int .u8) _ _ _ ((a0_0) % 256) [.int .u8 ((a0_0) % 256)] from rfl) (Reps.none _ _))); intro v144 w75 ho76 hb hg_ hnew_; clear hg_ hnew_; (first | rw [← Ny143.out] at ho76 | (simp only [Int.reduceToNat] at ho76; rw [← Ny143.out] at ho76)); have n0_ := Aside0.mk (Kd.R_lower ho76 (below_size (bl1_ HB GE141))); have n1_ := Aside0.mk (blk_below (g := gb141) (bk_ BK141) hb); have n2_ := Aside0.mk (below_step (bl1_ HB GE141) hb); clear BK141; clear HB; have HO145 := n0_; have BK141 := n1_; have HB := n2_; clear n0_ n1_ n2_; clear hb ho76; refine cz7_ BK141.out ?_; intro hcz77_0 hcz77_1 hcz77_2 hcz77_3 hcz77_4 hcz77_5 hcz77_6 hfz77_0 hfz77_1 hfz77_2 hfz77_3 hfz77_4 hfz77_5 hfz77_6) | ((with_reducible refine gate_dst (N := 17) rfl ?_); refine Kd.R_lit (Kd.int .i64) _ 3 ?hg (N := 17) ?hd (xs := ([a0_1] : List Int)) (inner := [.int .i64 a0_1]) (ok := fun _ => True) (okp := fun _ => True) ?hr ?hp (fun _ hk => hk) trivial (Below.refl _ _) (Nat.le_refl _) (by simp) ?_; (case hd => rfl); (case hg => rfl); (case hr => first | (go_simp; done) | (go_simp; rfl)); (case hp => exact (Reps.one (show Kd.M (Kd.int .i64) _ _ _ a0_1 [.int .i64 a0_1] from rfl) (Reps.none _ _))); intro v147 w78 ho79 hb hg_ hnew_; clear hg_ hnew_; (first | rw [← Ny146.out] at ho79 | (simp only [Int.reduceToNat] at ho79; rw [← Ny146.out] at ho79)); have n0_ := Aside0.mk (Kd.R_below (kr_ HO145) hb); have n1_ := Aside0.mk (Kd.R_lower ho79 (below_size (bl1_ HB GE141))); have n2_ := Aside0.mk (blk_below (g := gb141) (bk_ BK141) hb); have n3_ := Aside0.mk (below_step (bl1_ HB GE141) hb); clear HO145; clear BK141; clear HB; have HO145 := n0_; have HO148 := n1_; have BK141 := n2_; have HB := n3_; clear n0_ n1_ n2_ n3_; clear hb ho79; obtain ⟨Ao80, co80, eo80⟩ := Kd.R_slice HO145.out; subst eo80; obtain ⟨Ao81, co81, eo81⟩ := Kd.R_slice HO148.out; subst eo81) | ((with_reducible refine gate_callee (f := 63) rfl ?_); refine goesL_ (some 18) rfl rfl Try.func63 (by kernel_rfl) rfl #[.slice Ao80 y143.length co80, .slice Ao81 y146.length co81] rfl ar_ ?_; (with_reducible refine (pdu_lay.calls _ _ y143 _ _ y146 t149 _ ?side1 ?side2 ?side3 ?side4 A4.out).mono ?_); (case side1 => exact sc_ (Kd.R_reads' HO145.out).2.2); (case side2 => exact (Kd.R_reads' HO145.out).2.1); (case side3 => exact sc_ (Kd.R_reads' HO148.out).2.2); (case side4 => exact (Kd.R_reads' HO148.out).2.1); rintro e w82 ⟨v150, rfl, ho0, hb⟩; refine ⟨_, rfl, ?_⟩; have n0_ := Aside0.mk (Kd.R_elder' (kr_ HO145) (Kd.R_base ho0) hb); have n1_ := Aside0.mk (Kd.R_below (kr_ HO148) hb); have n2_ := Aside0.mk (Kd.R_lower (Kd.R_new' ho0 (Kd.R_lt (kr_ HO145))) (below_size (bl1_ HB GE141))); have n3_ := Aside0.mk (blk_below (g := gb141) (bk_ BK141) hb); have n4_ := Aside0.mk (below_step (bl1_ HB GE141) hb); clear HO145; clear HO148; clear BK141; clear HB; have HO145 := n0_; have HO148 := n1_; have HO151 := n2_; have BK141 := n3_; have HB := n4_; clear n0_ n1_ n2_ n3_ n4_; (try clear hb); (try clear hb2); (try clear hk); (try clear hi); (try clear ho0); refine cz7_ BK141.out ?_; intro hcz83_0 hcz83_1 hcz83_2 hcz83_3 hcz83_4 hcz83_5 hcz83_6 hfz83_0 hfz83_1 hfz83_2 hfz83_3 hfz83_4 hfz83_5 hfz83_6))
      have n0_ := Aside0.mk (Kd.R_drew HO145.out)
      have n1_ := Aside0.mk (Kd.R_drew HO148.out)
      have n2_ := Aside0.mk (Kd.R_drew HO151.out)
      have n3_ := Aside0.mk (blk_drew BK141.out)
      have n4_ := Aside0.mk (below_drew1 HB.out)
      clear HO145
      clear HO148
      clear HO151
      clear BK141
      clear HB
      have HO145 := n0_
      have HO148 := n1_
      have HO151 := n2_
      have BK141 := n3_
      have HB := n4_
      clear n0_ n1_ n2_ n3_ n4_
      refine start_ (n := 10) (S := fun w' => w'.cell? ⟨gb141, 0, none⟩ = some (.int .i64 a0_0) ∧ w'.cell? ⟨gb141, 1, none⟩ = some (.int .i64 a0_1) ∧ w'.cell? ⟨gb141, 2, none⟩ = some (.int .i64 a0_2) ∧ w'.cell? ⟨gb141, 3, none⟩ = some (.slice A0_3 l0_3.length c0_3) ∧ w'.cell? ⟨gb141, 4, none⟩ = some (.int .i64 a0_4) ∧ w'.cell? ⟨gb141, 5, none⟩ = some (.int .i64 a0_5) ∧ w'.cell? ⟨gb141, 6, none⟩ = some (.int .i64 a0_6)) (ds := []) #[false, false, false, false, false, false, false, false, false, false] (by kernel_rfl) rfl rfl ⟨(blk_cell BK141.out 0).trans rfl, (blk_cell BK141.out 1).trans rfl, (blk_cell BK141.out 2).trans rfl, (blk_cell BK141.out 3).trans rfl, (blk_cell BK141.out 4).trans rfl, (blk_cell BK141.out 5).trans rfl, (blk_cell BK141.out 6).trans rfl⟩ (fun hHeld => ?_); refine with_tabW pdu_Bytes.tab14 pdu_Bytes.bits14 (fun HT_ HW_ => ?_)
      generalize w82.drew = w84 at HO145 HO148 HO151 BK141 HB hHeld ⊢
      refine pure_ (i := 0) (N := some 56) (v := ?_) (a' := ?_) #[true, false, false, false, false, false, false, false, false, false] rfl rfl (any_of HT_.out (by kernel_rfl)) (fun _ _ _ h => h) (Or.inl ⟨by rfl, ?_⟩) ?_ ?_
      rotate_left
      ·intro w'
       go_simp
       with_reducible rfl
      rotate_left
      ·simp only [Act.put, List.setIfInBounds_toArray, List.set_cons_zero, List.set_cons_succ, i64_w, i32_w]
       rfl
      refine pure_ (i := 1) (N := some 57) (v := ?_) (a' := ?_) #[true, true, false, false, false, false, false, false, false, false] rfl rfl (any_of HT_.out (by kernel_rfl)) (fun _ _ _ h => h) (Or.inl ⟨by rfl, ?_⟩) ?_ ?_
      rotate_left
      ·intro w'
       go_simp
       with_reducible rfl
      rotate_left
      ·simp only [Act.put, List.setIfInBounds_toArray, List.set_cons_zero, List.set_cons_succ, i64_w, i32_w]
       rfl
      refine pure_ (i := 5) (N := some 61) (v := ?_) (a' := ?_) #[true, true, false, false, false, true, false, false, false, false] rfl rfl (any_of HT_.out (by kernel_rfl)) (fun _ _ _ h => h) (Or.inl ⟨by rfl, ?_⟩) ?_ ?_
      rotate_left
      ·intro w'
       go_simp
       with_reducible rfl
      rotate_left
      ·simp only [Act.put, List.setIfInBounds_toArray, List.set_cons_zero, List.set_cons_succ, i64_w, i32_w]
       rfl
      refine take_ (i := 2) (N := some 58) (v := ?_) (a' := ?_) #[true, true, true, false, false, true, false, false, false, false] rfl rfl (take_ofW HT_.out HW_.out (by kernel_rfl)) (fun _ _ _ h => h) (Or.inl ⟨by rfl, ?_⟩) hHeld ?_ ?_
      rotate_left
      ·rintro w' ⟨s0, s1, s2, s3, s4, s5, s6⟩
       go_simp
       with_reducible rfl
      rotate_left
      ·simp only [Act.put, List.setIfInBounds_toArray, List.set_cons_zero, List.set_cons_succ, i64_w, i32_w]
       rfl
      refine take_ (i := 6) (N := some 62) (v := ?_) (a' := ?_) #[true, true, true, false, false, true, true, false, false, false] rfl rfl (take_ofW HT_.out HW_.out (by kernel_rfl)) (fun _ _ _ h => h) (Or.inl ⟨by rfl, ?_⟩) hHeld ?_ ?_
      rotate_left
      ·rintro w' ⟨s0, s1, s2, s3, s4, s5, s6⟩
       go_simp
       with_reducible rfl
      rotate_left
      ·simp only [Act.put, List.setIfInBounds_toArray, List.set_cons_zero, List.set_cons_succ, i64_w, i32_w]
       rfl
      refine one_ (i := 3) (N := some 59) #[true, true, true, true, false, true, true, false, false, false] rfl rfl (one_of HT_.out (by kernel_rfl)) (by decide) (fun K hK => ?_)
      refine Kd.R_lit_step (Kd.int .i64) _ 3 ?hg (N := 59) ?hd (xs := ([a0_2] : List Int)) (inner := [.int .i64 a0_2]) (ok := fun _ => True) (okp := fun _ => True) ?hr ?hp (fun _ hk => hk) trivial (Below.refl _ _) (Nat.le_refl _) (by simp) ?_; (case hd => rfl); (case hg => rfl); (case hr => first | (go_simp; done) | (go_simp; rfl)); (case hp => exact (Reps.one (show Kd.M (Kd.int .i64) _ _ _ a0_2 [.int .i64 a0_2] from rfl) (Reps.none _ _)))
      intro v173 w85 ho86 hb hg_ hnew_
      clear hg_ hnew_
      (first | rw [← Ny172.out] at ho86 | (simp only [Int.reduceToNat] at ho86; rw [← Ny172.out] at ho86))
      have n0_ := Aside0.mk (Kd.R_below (kr_ HO145) hb)
      have n1_ := Aside0.mk (Kd.R_elder' (kr_ HO148) (Kd.R_base ho86) hb)
      have n2_ := Aside0.mk (Kd.R_below (kr_ HO151) hb)
      have n3_ := Aside0.mk (Kd.R_lower (Kd.R_new' ho86 (Kd.R_lt (kr_ HO148))) (below_size (bl1_ HB GE141)))
      have n4_ := Aside0.mk (blk_below (g := gb141) (bk_ BK141) hb)
      have n5_ := Aside0.mk (below_step (bl1_ HB GE141) hb)
      clear HO145
      clear HO148
      clear HO151
      clear BK141
      clear HB
      have HO145 := n0_
      have HO148 := n1_
      have HO151 := n2_
      have HO174 := n3_
      have BK141 := n4_
      have HB := n5_
      clear n0_ n1_ n2_ n3_ n4_ n5_
      clear hb ho86
      obtain ⟨Ao87, co87, eo87⟩ := Kd.R_slice HO151.out
      (first | subst eo87 | (injection eo87 with f1_ f2_ f3_; have f4_ := f1_.symm; have f5_ := f3_.symm; clear f1_ f2_ f3_; subst f4_; subst f5_))
      obtain ⟨Ao88, co88, eo88⟩ := Kd.R_slice HO174.out
      (first | subst eo88 | (injection eo88 with f1_ f2_ f3_; have f4_ := f1_.symm; have f5_ := f3_.symm; clear f1_ f2_ f3_; subst f4_; subst f5_))
      refine hK.out _ _ ⟨(blk_cell BK141.out 0).trans rfl, (blk_cell BK141.out 1).trans rfl, (blk_cell BK141.out 2).trans rfl, (blk_cell BK141.out 3).trans rfl, (blk_cell BK141.out 4).trans rfl, (blk_cell BK141.out 5).trans rfl, (blk_cell BK141.out 6).trans rfl⟩ (fun hHeld => ?_)
      clear hK K
      refine norm_ (a' := ?_) ?_ ?_
      rotate_left
      ·show Act.put _ (some 59) _ = _
       simp only [Act.put, List.setIfInBounds_toArray, List.set_cons_zero, List.set_cons_succ, i64_w, i32_w]
       rfl
      refine one_ (i := 4) (N := some 60) #[true, true, true, true, true, true, true, false, false, false] rfl rfl (one_of HT_.out (by kernel_rfl)) (by decide) (fun K hK => ?_)
      refine goes_ Try.func63 (by kernel_rfl) rfl #[.slice Ao87 t149.length co87, .slice Ao88 y172.length co88] (by rfl) rfl rfl ar_ ?_
      with_reducible refine (pdu_lay.calls _ _ t149 _ _ y172 t175 _ ?side1 ?side2 ?side3 ?side4 A68.out).mono ?_
      (case side1 => exact sc_ (Kd.R_reads' HO151.out).2.2)
      (case side2 => exact (Kd.R_reads' HO151.out).2.1)
      (case side3 => exact sc_ (Kd.R_reads' HO174.out).2.2)
      (case side4 => exact (Kd.R_reads' HO174.out).2.1)
      rintro e w89 ⟨v176, rfl, ho0, hb⟩
      refine ⟨_, rfl, ?_⟩
      have n0_ := Aside0.mk (Kd.R_elder' (kr_ HO145) (Kd.R_base ho0) hb)
      have n1_ := Aside0.mk (Kd.R_below (kr_ HO148) hb)
      have n2_ := Aside0.mk (Kd.R_elder' (kr_ HO151) (Kd.R_base ho0) hb)
      have n3_ := Aside0.mk (Kd.R_below (kr_ HO174) hb)
      have n4_ := Aside0.mk (Kd.R_lower (Kd.R_new' (Kd.R_new' ho0 (Kd.R_lt (kr_ HO145))) (Kd.R_lt (kr_ HO151))) (below_size (bl1_ HB GE141)))
      have n5_ := Aside0.mk (blk_below (g := gb141) (bk_ BK141) hb)
      have n6_ := Aside0.mk (below_step (bl1_ HB GE141) hb)
      clear HO145
      clear HO148
      clear HO151
      clear HO174
      clear BK141
      clear HB
      have HO145 := n0_
      have HO148 := n1_
      have HO151 := n2_
      have HO174 := n3_
      have HO177 := n4_
      have BK141 := n5_
      have HB := n6_
      clear n0_ n1_ n2_ n3_ n4_ n5_ n6_
      (try clear hb)
      (try clear hb2)
      (try clear hk)
      (try clear hi)
      (try clear ho0)
      refine hK.out _ _ ⟨(blk_cell BK141.out 0).trans rfl, (blk_cell BK141.out 1).trans rfl, (blk_cell BK141.out 2).trans rfl, (blk_cell BK141.out 3).trans rfl, (blk_cell BK141.out 4).trans rfl, (blk_cell BK141.out 5).trans rfl, (blk_cell BK141.out 6).trans rfl⟩ (fun hHeld => ?_)
      clear hK K
      refine norm_ (a' := ?_) ?_ ?_
      rotate_left
      ·show Act.put _ (some 60) _ = _
       simp only [Act.put, List.setIfInBounds_toArray, List.set_cons_zero, List.set_cons_succ, i64_w, i32_w]
       rfl
      refine one_ (i := 7) (N := some 63) #[true, true, true, true, true, true, true, true, false, false] rfl rfl (one_of HT_.out (by kernel_rfl)) (by decide) (fun K hK => ?_)
      refine goes_ Try.func62 (by kernel_rfl) rfl #[.slice A0_3 l0_3.length c0_3] (by rfl) rfl rfl ar_ ?_
      with_reducible refine (pdu_packed.calls k _ _ l0_3 t178 _ ?side1 ?side2 A69.out).mono ?_
      (case side1 => exact sc_ (Kd.C_below HR0_3.out HB.out))
      (case side2 => exact HC0_3.out)
      rintro e w90 ⟨v179, rfl, ho0, hb⟩
      refine ⟨_, rfl, ?_⟩
      have n0_ := Aside0.mk (Kd.R_elder' (kr_ HO145) (Kd.R_base ho0) hb)
      have n1_ := Aside0.mk (Kd.R_below (kr_ HO148) hb)
      have n2_ := Aside0.mk (Kd.R_elder' (kr_ HO151) (Kd.R_base ho0) hb)
      have n3_ := Aside0.mk (Kd.R_below (kr_ HO174) hb)
      have n4_ := Aside0.mk (Kd.R_elder' (kr_ HO177) (Kd.R_base ho0) hb)
      have n5_ := Aside0.mk (Kd.R_lower (Kd.R_new' (Kd.R_new' (Kd.R_new' ho0 (Kd.R_lt (kr_ HO145))) (Kd.R_lt (kr_ HO151))) (Kd.R_lt (kr_ HO177))) (below_size (bl1_ HB GE141)))
      have n6_ := Aside0.mk (blk_below (g := gb141) (bk_ BK141) hb)
      have n7_ := Aside0.mk (below_step (bl1_ HB GE141) hb)
      clear HO145
      clear HO148
      clear HO151
      clear HO174
      clear HO177
      clear BK141
      clear HB
      have HO145 := n0_
      have HO148 := n1_
      have HO151 := n2_
      have HO174 := n3_
      have HO177 := n4_
      have HO180 := n5_
      have BK141 := n6_
      have HB := n7_
      clear n0_ n1_ n2_ n3_ n4_ n5_ n6_ n7_
      (try clear hb)
      (try clear hb2)
      (try clear hk)
      (try clear hi)
      (try clear ho0)
      obtain ⟨Ao91, co91, eo91⟩ := Kd.R_slice HO177.out
      (first | subst eo91 | (injection eo91 with f1_ f2_ f3_; have f4_ := f1_.symm; have f5_ := f3_.symm; clear f1_ f2_ f3_; subst f4_; subst f5_))
      obtain ⟨Ao92, co92, eo92⟩ := Kd.R_slice HO180.out
      (first | subst eo92 | (injection eo92 with f1_ f2_ f3_; have f4_ := f1_.symm; have f5_ := f3_.symm; clear f1_ f2_ f3_; subst f4_; subst f5_))
      refine hK.out _ _ ⟨(blk_cell BK141.out 0).trans rfl, (blk_cell BK141.out 1).trans rfl, (blk_cell BK141.out 2).trans rfl, (blk_cell BK141.out 3).trans rfl, (blk_cell BK141.out 4).trans rfl, (blk_cell BK141.out 5).trans rfl, (blk_cell BK141.out 6).trans rfl⟩ (fun hHeld => ?_)
      clear hK K
      refine norm_ (a' := ?_) ?_ ?_
      rotate_left
      ·show Act.put _ (some 63) _ = _
       simp only [Act.put, List.setIfInBounds_toArray, List.set_cons_zero, List.set_cons_succ, i64_w, i32_w]
       rfl
      refine one_ (i := 8) (N := some 64) #[true, true, true, true, true, true, true, true, true, false] rfl rfl (one_of HT_.out (by kernel_rfl)) (by decide) (fun K hK => ?_)
      refine goes_ Try.func61 (by kernel_rfl) rfl #[.slice Ao91 t175.length co91, .slice Ao92 t178.length co92] (by rfl) rfl rfl ar_ ?_
      with_reducible refine (pdu_counted.calls (fun k_ => some k_ = (.slice Ao91 t175.length co91 : Value).ownBlock) (.slice Ao91 t175.length co91) t175 _ _ t178 t181 w _ ?side1 ?side2 ?side3 ?side4 A70.out).mono ?_
      (case side1 => repeat (first | (with_reducible first | exact HB.out | apply below_alloc | apply pw_below_drewN | apply below_drew1 | refine below_set ?_ GE141.out) | exact HB.out))
      (case side2 => exact Kd.R_tight rfl HO177.out)
      (case side3 => exact Kd.C_kept_own (HO180.out) (fun k_ hk_ hs_ => (hk_.2) hs_))
      (case side4 => exact (Kd.R_reads' HO180.out).2.1)
      rintro e w93 ⟨v182, rfl, ho0, hb, hkp⟩
      refine ⟨_, rfl, ?_⟩
      have n0_ := Aside0.mk (blk_kept (bk_ BK141) hkp (fun hs_ => (fun e_ => (Kd.R_ne HO177.out BK141.out (by decide)) e_) hs_))
      have n1_ := Aside0.mk (Kd.R_mono (ok' := fun k_ => some k_ ≠ (.slice Ao87 t149.length co87 : Value).ownBlock ∧ some k_ ≠ (.slice Ao92 t178.length co92 : Value).ownBlock ∧ some k_ ≠ (v182 : Value).ownBlock) (Kd.R_keptB (HO145.out) hkp (fun k_ hk_ hs_ => (hk_.1.2) hs_)) (fun k_ hk_ => ⟨hk_.1.1.1.2, hk_.1.2, fun e_ => Or.elim (ho0.1 k_ e_.symm) (fun hs_ => hk_.2.1 hs_) (fun hn_ => Nat.not_le.2 hk_.2.2 hn_)⟩))
      have n2_ := Aside0.mk (Kd.R_mono (ok' := fun k_ => some k_ ≠ (.slice Ao88 y172.length co88 : Value).ownBlock) (Kd.R_keptB ((Kd.R_apart' HO148.out (Kd.R_typed HO177.out) (by decide))) hkp (fun k_ hk_ hs_ => (hk_.2) hs_)) (fun k_ hk_ => hk_.1.1.2))
      have n3_ := Aside0.mk (Kd.R_mono (ok' := fun k_ => some k_ ≠ (.slice Ao80 y143.length co80 : Value).ownBlock ∧ some k_ ≠ (.slice Ao92 t178.length co92 : Value).ownBlock ∧ some k_ ≠ (v182 : Value).ownBlock) (Kd.R_keptB (HO151.out) hkp (fun k_ hk_ hs_ => (hk_.1.2) hs_)) (fun k_ hk_ => ⟨hk_.1.1.1.2, hk_.1.2, fun e_ => Or.elim (ho0.1 k_ e_.symm) (fun hs_ => hk_.2.1 hs_) (fun hn_ => Nat.not_le.2 hk_.2.2 hn_)⟩))
      have n4_ := Aside0.mk (Kd.R_mono (ok' := fun k_ => some k_ ≠ (.slice Ao81 y146.length co81 : Value).ownBlock) (Kd.R_keptB ((Kd.R_apart' HO174.out (Kd.R_typed HO177.out) (by decide))) hkp (fun k_ hk_ hs_ => (hk_.2) hs_)) (fun k_ hk_ => hk_.1.1.2))
      have n5_ := Aside0.mk (Kd.R_mono (ok' := fun k_ => some k_ ≠ (.slice Ao80 y143.length co80 : Value).ownBlock ∧ some k_ ≠ (.slice Ao87 t149.length co87 : Value).ownBlock ∧ some k_ ≠ (v182 : Value).ownBlock) (Kd.R_keptB (HO180.out) hkp (fun k_ hk_ hs_ => (hk_.2) hs_)) (fun k_ hk_ => ⟨hk_.1.1.1.2, hk_.1.1.2, fun e_ => Or.elim (ho0.1 k_ e_.symm) (fun hs_ => hk_.2.1 hs_) (fun hn_ => Nat.not_le.2 hk_.2.2 hn_)⟩))
      have n6_ := Aside0.mk (Kd.R_mono (ok' := fun k_ => some k_ ≠ (.slice Ao80 y143.length co80 : Value).ownBlock ∧ some k_ ≠ (.slice Ao87 t149.length co87 : Value).ownBlock ∧ some k_ ≠ (.slice Ao92 t178.length co92 : Value).ownBlock) ho0 (fun k_ hk_ => ⟨Or.elim hk_ (fun hs_ => fun e_ => (((HO145.out).1 k_ e_.symm).1.2) hs_) (fun hn_ => (Kd.fresh' (Kd.R_lt (kr_ HO145)) k_ hn_)), Or.elim hk_ (fun hs_ => fun e_ => (((HO151.out).1 k_ e_.symm).1.2) hs_) (fun hn_ => (Kd.fresh' (Kd.R_lt (kr_ HO151)) k_ hn_)), Or.elim hk_ (fun hs_ => fun e_ => (((HO180.out).1 k_ e_.symm).2) hs_) (fun hn_ => (Kd.fresh' (Kd.R_lt (kr_ HO180)) k_ hn_))⟩))
      have n7_ := Aside0.mk (hb)
      clear BK141
      clear HO145
      clear HO148
      clear HO151
      clear HO174
      clear HO180
      clear HB
      clear HO177
      have BK141 := n0_
      have HO145 := n1_
      have HO148 := n2_
      have HO151 := n3_
      have HO174 := n4_
      have HO180 := n5_
      have HO183 := n6_
      have HB := n7_
      clear n0_ n1_ n2_ n3_ n4_ n5_ n6_ n7_
      (try clear hb)
      (try clear hkp)
      (try clear ho0)
      refine hK.out _ _ ⟨(blk_cell BK141.out 0).trans rfl, (blk_cell BK141.out 1).trans rfl, (blk_cell BK141.out 2).trans rfl, (blk_cell BK141.out 3).trans rfl, (blk_cell BK141.out 4).trans rfl, (blk_cell BK141.out 5).trans rfl, (blk_cell BK141.out 6).trans rfl⟩ (fun hHeld => ?_)
      clear hK K
      refine norm_ (a' := ?_) ?_ ?_
      rotate_left
      ·show Act.put _ (some 64) _ = _
       simp only [Act.put, List.setIfInBounds_toArray, List.set_cons_zero, List.set_cons_succ, i64_w, i32_w]
       rfl
      refine pure_ (i := 9) (N := some 5) (v := ?_) (a' := ?_) #[true, true, true, true, true, true, true, true, true, true] rfl rfl (any_of HT_.out (by kernel_rfl)) (fun _ _ _ h => h) (Or.inl ⟨by rfl, ?_⟩) ?_ ?_
      rotate_left
      ·intro w'
       go_simp
       with_reducible rfl
      rotate_left
      ·simp only [Act.put, List.setIfInBounds_toArray, List.set_cons_zero, List.set_cons_succ, i64_w, i32_w]
       rfl
      refine done_ (done_of HT_.out (by kernel_rfl)) ?_
      try go_wp2
      go_ret2
      exact ⟨_, er_, by (with_reducible repeat (first | apply Kd.R_alloc | apply Kd.R_drewN | apply Kd.R_drew)); exact Kd.R_mono HO183.out (fun _ hk => trivial), bl1_ HB GE141⟩
     ·rw [if_neg c67] at H
      have c67b0 : (a0_0 == 15) = false := beq_eq_false_iff_ne.mpr c67
      have c67b1 : (a0_0 != 15) = true := bne_iff_ne.mpr c67
      by_cases c94 : a0_0 = 23
      ·rw [if_pos c94] at H
       have c94b0 : (a0_0 == 23) = true := beq_iff_eq.mpr c94
       have c94b1 : (a0_0 != 23) = false := bne_eq_false_iff_eq.mpr c94
       clear c94
       obtain ⟨y184, hy184⟩ : ∃ y_ : List Int, y_ = (([a0_2, a0_4, (l0_3.length : Int)] : List Int)) := ⟨_, rfl⟩
       replace H : ((pdu_lay.f t149 y184).bind fun t187 => ((pdu_lay.f ([] : List Int) l0_3).bind fun t190 => ((pdu_counted.f t187 t190).bind fun t193 => (some (t193, 0))))) = some (r1, r2) := by first | (rw [hy184]; with_reducible exact H) | (have H2_ := (Option.bind_some _ _).symm.trans H; rw [hy184]; with_reducible exact H2_) | (have H2_ := (Option.bind_some _ _).symm.trans H; with_reducible exact H2_) | with_reducible exact H | (rw [hy184]; exact H) | exact H
       have Ny184 := Aside0.mk hy184
       clear hy184
       replace H := Option.bind_eq_some_iff.mp H
       obtain ⟨t187, A950, H⟩ := H
       replace H : ((pdu_lay.f ([] : List Int) l0_3).bind fun t190 => ((pdu_counted.f t187 t190).bind fun t193 => (some (t193, 0)))) = some (r1, r2) := H
       have A95 := Aside0.mk A950
       clear A950
       replace H := Option.bind_eq_some_iff.mp H
       obtain ⟨t190, A960, H⟩ := H
       replace H : ((pdu_counted.f t187 t190).bind fun t193 => (some (t193, 0))) = some (r1, r2) := H
       have A96 := Aside0.mk A960
       clear A960
       replace H := Option.bind_eq_some_iff.mp H
       obtain ⟨t193, A970, H⟩ := H
       replace H : (some (t193, 0)) = some (r1, r2) := H
       have A97 := Aside0.mk A970
       clear A970
       simp only [Option.some.injEq, Prod.mk.injEq] at H
       obtain ⟨rfl, rfl⟩ := H
       go_enter Try.func64, Try.ntmps64
       go_wp2_with (first | ((with_reducible refine gate_dst (N := 1) rfl ?_); refine bx_ (N := 1) (cs := #[.int .i64 a0_0, .int .i64 a0_1, .int .i64 a0_2, .slice A0_3 l0_3.length c0_3, .int .i64 a0_4, .int .i64 a0_5, .int .i64 a0_6]) (t := 31) ?_; intro gb141 hg w98 hbox hb; have n0_ := Aside0.mk (below_step (bl0_ HB) hb); have n1_ := Aside0.mk (hbox); have n2_ := Aside0.mk ((by rw [hg]; exact (below_size (bl0_ HB)) : w.heap.size ≤ gb141)); have n3_ := Aside0.mk ((by rw [hg]; exact (below_size (bl0_ HB)) : w.heap.size ≤ gb141)); clear HB; have HB := n0_; have BK141 := n1_; have GW141 := n2_; have GE141 := n3_; clear n0_ n1_ n2_ n3_; clear hb hbox hg; refine cz7_ BK141.out ?_; intro hcz99_0 hcz99_1 hcz99_2 hcz99_3 hcz99_4 hcz99_5 hcz99_6 hfz99_0 hfz99_1 hfz99_2 hfz99_3 hfz99_4 hfz99_5 hfz99_6) | ((with_reducible refine gate_callee (f := 29) rfl ?_); refine goesL_ (some 7) rfl rfl Try.func29 (by kernel_rfl) rfl #[.agg #[.int .i64 a0_0, .int .i64 a0_1, .int .i64 a0_2, .slice A0_3 l0_3.length c0_3, .int .i64 a0_4, .int .i64 a0_5, .int .i64 a0_6]] rfl ar_ ?_; (with_reducible refine (pdu_Check.calls a0_0 a0_1 a0_2 _ _ l0_3 a0_4 a0_5 a0_6 t142 _ ?side1 ?side2 A2.out).mono ?_); (case side1 => exact sc_ (Kd.C_below HR0_3.out HB.out)); (case side2 => exact HC0_3.out); rintro e w100 ⟨rfl, hb⟩; refine ⟨_, rfl, ?_⟩; have n0_ := Aside0.mk (blk_below (g := gb141) (bk_ BK141) hb); have n1_ := Aside0.mk (below_step (bl1_ HB GE141) hb); clear BK141; clear HB; have BK141 := n0_; have HB := n1_; clear n0_ n1_; (try clear hb); (try clear hb2); (try clear hk); (try clear hi); refine cz7_ BK141.out ?_; intro hcz101_0 hcz101_1 hcz101_2 hcz101_3 hcz101_4 hcz101_5 hcz101_6 hfz101_0 hfz101_1 hfz101_2 hfz101_3 hfz101_4 hfz101_5 hfz101_6) | ((with_reducible refine gate_dst (N := 14) rfl ?_); refine Kd.R_lit (Kd.int .u8) _ 5 ?hg (N := 14) ?hd (xs := ([(a0_0) % 256] : List Int)) (inner := [.int .u8 ((a0_0) % 256)]) (ok := fun _ => True) (okp := fun _ => True) ?hr ?hp (fun _ hk => hk) trivial (Below.refl _ _) (Nat.le_refl _) (by simp) ?_; (case hd => rfl); (case hg => rfl); (case hr => first | (go_simp; done) | (go_simp; rfl)); (case hp => exact (Reps.one (show Kd.M (Kd.int .u8) _ _ _ ((a0_0) % 256) [.int .u8 ((a0_0) % 256)] from rfl) (Reps.none _ _))); intro v144 w102 ho103 hb hg_ hnew_; clear hg_ hnew_; (first | rw [← Ny143.out] at ho103 | (simp only [Int.reduceToNat] at ho103; rw [← Ny143.out] at ho103)); have n0_ := Aside0.mk (Kd.R_lower ho103 (below_size (bl1_ HB GE141))); have n1_ := Aside0.mk (blk_below (g := gb141) (bk_ BK141) hb); have n2_ := Aside0.mk (below_step (bl1_ HB GE141) hb); clear BK141; clear HB; have HO145 := n0_; have BK141 := n1_; have HB := n2_; clear n0_ n1_ n2_; clear hb ho103; refine cz7_ BK141.out ?_; intro hcz104_0 hcz104_1 hcz104_2 hcz104_3 hcz104_4 hcz104_5 hcz104_6 hfz104_0 hfz104_1 hfz104_2 hfz104_3 hfz104_4 hfz104_5 hfz104_6) | ((with_reducible refine gate_dst (N := 17) rfl ?_); refine Kd.R_lit (Kd.int .i64) _ 3 ?hg (N := 17) ?hd (xs := ([a0_1] : List Int)) (inner := [.int .i64 a0_1]) (ok := fun _ => True) (okp := fun _ => True) ?hr ?hp (fun _ hk => hk) trivial (Below.refl _ _) (Nat.le_refl _) (by simp) ?_; (case hd => rfl); (case hg => rfl); (case hr => first | (go_simp; done) | (go_simp; rfl)); (case hp => exact (Reps.one (show Kd.M (Kd.int .i64) _ _ _ a0_1 [.int .i64 a0_1] from rfl) (Reps.none _ _))); intro v147 w105 ho106 hb hg_ hnew_; clear hg_ hnew_; (first | rw [← Ny146.out] at ho106 | (simp only [Int.reduceToNat] at ho106; rw [← Ny146.out] at ho106)); have n0_ := Aside0.mk (Kd.R_below (kr_ HO145) hb); have n1_ := Aside0.mk (Kd.R_lower ho106 (below_size (bl1_ HB GE141))); have n2_ := Aside0.mk (blk_below (g := gb141) (bk_ BK141) hb); have n3_ := Aside0.mk (below_step (bl1_ HB GE141) hb); clear HO145; clear BK141; clear HB; have HO145 := n0_; have HO148 := n1_; have BK141 := n2_; have HB := n3_; clear n0_ n1_ n2_ n3_; clear hb ho106; obtain ⟨Ao107, co107, eo107⟩ := Kd.R_slice HO145.out; subst eo107; obtain ⟨Ao108, co108, eo108⟩ := Kd.R_slice HO148.out; subst eo108) | ((with_reducible refine gate_callee (f := 63) rfl ?_); refine goesL_ (some 18) rfl rfl Try.func63 (by kernel_rfl) rfl #[.slice Ao107 y143.length co107, .slice Ao108 y146.length co108] rfl ar_ ?_; (with_reducible refine (pdu_lay.calls _ _ y143 _ _ y146 t149 _ ?side1 ?side2 ?side3 ?side4 A4.out).mono ?_); (case side1 => exact sc_ (Kd.R_reads' HO145.out).2.2); (case side2 => exact (Kd.R_reads' HO145.out).2.1); (case side3 => exact sc_ (Kd.R_reads' HO148.out).2.2); (case side4 => exact (Kd.R_reads' HO148.out).2.1); rintro e w109 ⟨v150, rfl, ho0, hb⟩; refine ⟨_, rfl, ?_⟩; have n0_ := Aside0.mk (Kd.R_elder' (kr_ HO145) (Kd.R_base ho0) hb); have n1_ := Aside0.mk (Kd.R_below (kr_ HO148) hb); have n2_ := Aside0.mk (Kd.R_lower (Kd.R_new' ho0 (Kd.R_lt (kr_ HO145))) (below_size (bl1_ HB GE141))); have n3_ := Aside0.mk (blk_below (g := gb141) (bk_ BK141) hb); have n4_ := Aside0.mk (below_step (bl1_ HB GE141) hb); clear HO145; clear HO148; clear BK141; clear HB; have HO145 := n0_; have HO148 := n1_; have HO151 := n2_; have BK141 := n3_; have HB := n4_; clear n0_ n1_ n2_ n3_ n4_; (try clear hb); (try clear hb2); (try clear hk); (try clear hi); (try clear ho0); refine cz7_ BK141.out ?_; intro hcz110_0 hcz110_1 hcz110_2 hcz110_3 hcz110_4 hcz110_5 hcz110_6 hfz110_0 hfz110_1 hfz110_2 hfz110_3 hfz110_4 hfz110_5 hfz110_6) | ((with_reducible refine gate_dst (N := 75) rfl ?_); refine Kd.R_lit (Kd.int .i64) _ 3 ?hg (N := 75) ?hd (xs := ([a0_2, a0_4, (l0_3.length : Int)] : List Int)) (inner := [.int .i64 a0_2, .int .i64 a0_4, .int .i64 (l0_3.length : Int)]) (ok := fun _ => True) (okp := fun _ => True) ?hr ?hp (fun _ hk => hk) trivial (Below.refl _ _) (Nat.le_refl _) (by simp) ?_; (case hd => rfl); (case hg => rfl); (case hr => first | (go_simp; done) | (go_simp; rfl)); (case hp => exact (Reps.one (show Kd.M (Kd.int .i64) _ _ _ a0_2 [.int .i64 a0_2] from rfl) (Reps.one (show Kd.M (Kd.int .i64) _ _ _ a0_4 [.int .i64 a0_4] from rfl) (Reps.one (show Kd.M (Kd.int .i64) _ _ _ (l0_3.length : Int) [.int .i64 (l0_3.length : Int)] from rfl) (Reps.none _ _))))); intro v185 w111 ho112 hb hg_ hnew_; clear hg_ hnew_; (first | rw [← Ny184.out] at ho112 | (simp only [Int.reduceToNat] at ho112; rw [← Ny184.out] at ho112)); have n0_ := Aside0.mk (Kd.R_below (kr_ HO145) hb); have n1_ := Aside0.mk (Kd.R_elder' (kr_ HO148) (Kd.R_base ho112) hb); have n2_ := Aside0.mk (Kd.R_below (kr_ HO151) hb); have n3_ := Aside0.mk (Kd.R_lower (Kd.R_new' ho112 (Kd.R_lt (kr_ HO148))) (below_size (bl1_ HB GE141))); have n4_ := Aside0.mk (blk_below (g := gb141) (bk_ BK141) hb); have n5_ := Aside0.mk (below_step (bl1_ HB GE141) hb); clear HO145; clear HO148; clear HO151; clear BK141; clear HB; have HO145 := n0_; have HO148 := n1_; have HO151 := n2_; have HO186 := n3_; have BK141 := n4_; have HB := n5_; clear n0_ n1_ n2_ n3_ n4_ n5_; clear hb ho112; obtain ⟨Ao113, co113, eo113⟩ := Kd.R_slice HO151.out; subst eo113; obtain ⟨Ao114, co114, eo114⟩ := Kd.R_slice HO186.out; subst eo114) | ((with_reducible refine gate_callee (f := 63) rfl ?_); refine goesL_ (some 76) rfl rfl Try.func63 (by kernel_rfl) rfl #[.slice Ao113 t149.length co113, .slice Ao114 y184.length co114] rfl ar_ ?_; (with_reducible refine (pdu_lay.calls _ _ t149 _ _ y184 t187 _ ?side1 ?side2 ?side3 ?side4 A95.out).mono ?_); (case side1 => exact sc_ (Kd.R_reads' HO151.out).2.2); (case side2 => exact (Kd.R_reads' HO151.out).2.1); (case side3 => exact sc_ (Kd.R_reads' HO186.out).2.2); (case side4 => exact (Kd.R_reads' HO186.out).2.1); rintro e w115 ⟨v188, rfl, ho0, hb⟩; refine ⟨_, rfl, ?_⟩; have n0_ := Aside0.mk (Kd.R_elder' (kr_ HO145) (Kd.R_base ho0) hb); have n1_ := Aside0.mk (Kd.R_below (kr_ HO148) hb); have n2_ := Aside0.mk (Kd.R_elder' (kr_ HO151) (Kd.R_base ho0) hb); have n3_ := Aside0.mk (Kd.R_below (kr_ HO186) hb); have n4_ := Aside0.mk (Kd.R_lower (Kd.R_new' (Kd.R_new' ho0 (Kd.R_lt (kr_ HO145))) (Kd.R_lt (kr_ HO151))) (below_size (bl1_ HB GE141))); have n5_ := Aside0.mk (blk_below (g := gb141) (bk_ BK141) hb); have n6_ := Aside0.mk (below_step (bl1_ HB GE141) hb); clear HO145; clear HO148; clear HO151; clear HO186; clear BK141; clear HB; have HO145 := n0_; have HO148 := n1_; have HO151 := n2_; have HO186 := n3_; have HO189 := n4_; have BK141 := n5_; have HB := n6_; clear n0_ n1_ n2_ n3_ n4_ n5_ n6_; (try clear hb); (try clear hb2); (try clear hk); (try clear hi); (try clear ho0); refine cz7_ BK141.out ?_; intro hcz116_0 hcz116_1 hcz116_2 hcz116_3 hcz116_4 hcz116_5 hcz116_6 hfz116_0 hfz116_1 hfz116_2 hfz116_3 hfz116_4 hfz116_5 hfz116_6) | ((with_reducible refine gate_callee (f := 63) rfl ?_); refine goesL_ (some 80) rfl rfl Try.func63 (by kernel_rfl) rfl #[.slice none 0 0, .slice A0_3 l0_3.length c0_3] rfl ar_ ?_; (refine (pdu_lay.calls _ _ ([] : List Int) _ _ l0_3 t190 _ ?side1 ?side2 ?side3 ?side4 A96.out).mono ?_); (case side1 => exact Kd.C_nil _ _); (case side2 => exact Nat.le_refl _); (case side3 => exact sc_ (Kd.C_below HR0_3.out HB.out)); (case side4 => exact HC0_3.out); rintro e w117 ⟨v191, rfl, ho0, hb⟩; refine ⟨_, rfl, ?_⟩; have n0_ := Aside0.mk (Kd.R_elder' (kr_ HO145) (Kd.R_base ho0) hb); have n1_ := Aside0.mk (Kd.R_below (kr_ HO148) hb); have n2_ := Aside0.mk (Kd.R_elder' (kr_ HO151) (Kd.R_base ho0) hb); have n3_ := Aside0.mk (Kd.R_below (kr_ HO186) hb); have n4_ := Aside0.mk (Kd.R_elder' (kr_ HO189) (Kd.R_base ho0) hb); have n5_ := Aside0.mk (Kd.R_lower (Kd.R_new' (Kd.R_new' (Kd.R_new' ho0 (Kd.R_lt (kr_ HO145))) (Kd.R_lt (kr_ HO151))) (Kd.R_lt (kr_ HO189))) (below_size (bl1_ HB GE141))); have n6_ := Aside0.mk (blk_below (g := gb141) (bk_ BK141) hb); have n7_ := Aside0.mk (below_step (bl1_ HB GE141) hb); clear HO145; clear HO148; clear HO151; clear HO186; clear HO189; clear BK141; clear HB; have HO145 := n0_; have HO148 := n1_; have HO151 := n2_; have HO186 := n3_; have HO189 := n4_; have HO192 := n5_; have BK141 := n6_; have HB := n7_; clear n0_ n1_ n2_ n3_ n4_ n5_ n6_ n7_; (try clear hb); (try clear hb2); (try clear hk); (try clear hi); (try clear ho0); obtain ⟨Ao118, co118, eo118⟩ := Kd.R_slice HO189.out; subst eo118; obtain ⟨Ao119, co119, eo119⟩ := Kd.R_slice HO192.out; subst eo119) | ((with_reducible refine gate_callee (f := 61) rfl ?_); refine goesL_ (some 81) rfl rfl Try.func61 (by kernel_rfl) rfl #[.slice Ao118 t187.length co118, .slice Ao119 t190.length co119] rfl ar_ ?_; (with_reducible refine (pdu_counted.calls (fun k_ => some k_ = (.slice Ao118 t187.length co118 : Value).ownBlock) (.slice Ao118 t187.length co118) t187 _ _ t190 t193 w _ ?side1 ?side2 ?side3 ?side4 A97.out).mono ?_); (case side1 => repeat (first | (with_reducible first | exact HB.out | apply below_alloc | apply pw_below_drewN | apply below_drew1 | refine below_set ?_ GE141.out) | exact HB.out)); (case side2 => exact Kd.R_tight rfl HO189.out); (case side3 => exact Kd.C_kept_own (HO192.out) (fun k_ hk_ hs_ => (hk_.2) hs_)); (case side4 => exact (Kd.R_reads' HO192.out).2.1); rintro e w120 ⟨v194, rfl, ho0, hb, hkp⟩; refine ⟨_, rfl, ?_⟩; have n0_ := Aside0.mk (blk_kept (bk_ BK141) hkp (fun hs_ => (fun e_ => (Kd.R_ne HO189.out BK141.out (by decide)) e_) hs_)); have n1_ := Aside0.mk (Kd.R_mono (ok' := fun k_ => some k_ ≠ (.slice Ao113 t149.length co113 : Value).ownBlock ∧ some k_ ≠ (.slice Ao119 t190.length co119 : Value).ownBlock ∧ some k_ ≠ (v194 : Value).ownBlock) (Kd.R_keptB (HO145.out) hkp (fun k_ hk_ hs_ => (hk_.1.2) hs_)) (fun k_ hk_ => ⟨hk_.1.1.1.2, hk_.1.2, fun e_ => Or.elim (ho0.1 k_ e_.symm) (fun hs_ => hk_.2.1 hs_) (fun hn_ => Nat.not_le.2 hk_.2.2 hn_)⟩)); have n2_ := Aside0.mk (Kd.R_mono (ok' := fun k_ => some k_ ≠ (.slice Ao114 y184.length co114 : Value).ownBlock) (Kd.R_keptB ((Kd.R_apart' HO148.out (Kd.R_typed HO189.out) (by decide))) hkp (fun k_ hk_ hs_ => (hk_.2) hs_)) (fun k_ hk_ => hk_.1.1.2)); have n3_ := Aside0.mk (Kd.R_mono (ok' := fun k_ => some k_ ≠ (.slice Ao107 y143.length co107 : Value).ownBlock ∧ some k_ ≠ (.slice Ao119 t190.length co119 : Value).ownBlock ∧ some k_ ≠ (v194 : Value).ownBlock) (Kd.R_keptB (HO151.out) hkp (fun k_ hk_ hs_ => (hk_.1.2) hs_)) (fun k_ hk_ => ⟨hk_.1.1.1.2, hk_.1.2, fun e_ => Or.elim (ho0.1 k_ e_.symm) (fun hs_ => hk_.2.1 hs_) (fun hn_ => Nat.not_le.2 hk_.2.2 hn_)⟩)); have n4_ := Aside0.mk (Kd.R_mono (ok' := fun k_ => some k_ ≠ (.slice Ao108 y146.length co108 : Value).ownBlock) (Kd.R_keptB ((Kd.R_apart' HO186.out (Kd.R_typed HO189.out) (by decide))) hkp (fun k_ hk_ hs_ => (hk_.2) hs_)) (fun k_ hk_ => hk_.1.1.2)); have n5_ := Aside0.mk (Kd.R_mono (ok' := fun k_ => some k_ ≠ (.slice Ao107 y143.length co107 : Value).ownBlock ∧ some k_ ≠ (.slice Ao113 t149.length co113 : Value).ownBlock ∧ some k_ ≠ (v194 : Value).ownBlock) (Kd.R_keptB (HO192.out) hkp (fun k_ hk_ hs_ => (hk_.2) hs_)) (fun k_ hk_ => ⟨hk_.1.1.1.2, hk_.1.1.2, fun e_ => Or.elim (ho0.1 k_ e_.symm) (fun hs_ => hk_.2.1 hs_) (fun hn_ => Nat.not_le.2 hk_.2.2 hn_)⟩)); have n6_ := Aside0.mk (Kd.R_mono (ok' := fun k_ => some k_ ≠ (.slice Ao107 y143.length co107 : Value).ownBlock ∧ some k_ ≠ (.slice Ao113 t149.length co113 : Value).ownBlock ∧ some k_ ≠ (.slice Ao119 t190.length co119 : Value).ownBlock) ho0 (fun k_ hk_ => ⟨Or.elim hk_ (fun hs_ => fun e_ => (((HO145.out).1 k_ e_.symm).1.2) hs_) (fun hn_ => (Kd.fresh' (Kd.R_lt (kr_ HO145)) k_ hn_)), Or.elim hk_ (fun hs_ => fun e_ => (((HO151.out).1 k_ e_.symm).1.2) hs_) (fun hn_ => (Kd.fresh' (Kd.R_lt (kr_ HO151)) k_ hn_)), Or.elim hk_ (fun hs_ => fun e_ => (((HO192.out).1 k_ e_.symm).2) hs_) (fun hn_ => (Kd.fresh' (Kd.R_lt (kr_ HO192)) k_ hn_))⟩)); have n7_ := Aside0.mk (hb); clear BK141; clear HO145; clear HO148; clear HO151; clear HO186; clear HO192; clear HB; clear HO189; have BK141 := n0_; have HO145 := n1_; have HO148 := n2_; have HO151 := n3_; have HO186 := n4_; have HO192 := n5_; have HO195 := n6_; have HB := n7_; clear n0_ n1_ n2_ n3_ n4_ n5_ n6_ n7_; (try clear hb); (try clear hkp); (try clear ho0)))
       go_ret2
       exact ⟨_, er_, by (with_reducible repeat (first | apply Kd.R_alloc | apply Kd.R_drewN | apply Kd.R_drew)); exact Kd.R_mono HO195.out (fun _ hk => trivial), bl1_ HB GE141⟩
      ·rw [if_neg c94] at H
       have c94b0 : (a0_0 == 23) = false := beq_eq_false_iff_ne.mpr c94
       have c94b1 : (a0_0 != 23) = true := bne_iff_ne.mpr c94
       by_cases c121 : a0_0 = 16
       ·rw [if_pos c121] at H
        have c121b0 : (a0_0 == 16) = true := beq_iff_eq.mpr c121
        have c121b1 : (a0_0 != 16) = false := bne_eq_false_iff_eq.mpr c121
        clear c121
        obtain ⟨y196, hy196⟩ : ∃ y_ : List Int, y_ = (([a0_2] : List Int)) := ⟨_, rfl⟩
        replace H : ((pdu_lay.f t149 y196).bind fun t199 => ((pdu_lay.f ([] : List Int) l0_3).bind fun t202 => ((pdu_counted.f t199 t202).bind fun t205 => (some (t205, 0))))) = some (r1, r2) := by first | (rw [hy196]; with_reducible exact H) | (have H2_ := (Option.bind_some _ _).symm.trans H; rw [hy196]; with_reducible exact H2_) | (have H2_ := (Option.bind_some _ _).symm.trans H; with_reducible exact H2_) | with_reducible exact H | (rw [hy196]; exact H) | exact H
        have Ny196 := Aside0.mk hy196
        clear hy196
        replace H := Option.bind_eq_some_iff.mp H
        obtain ⟨t199, A1220, H⟩ := H
        replace H : ((pdu_lay.f ([] : List Int) l0_3).bind fun t202 => ((pdu_counted.f t199 t202).bind fun t205 => (some (t205, 0)))) = some (r1, r2) := H
        have A122 := Aside0.mk A1220
        clear A1220
        replace H := Option.bind_eq_some_iff.mp H
        obtain ⟨t202, A1230, H⟩ := H
        replace H : ((pdu_counted.f t199 t202).bind fun t205 => (some (t205, 0))) = some (r1, r2) := H
        have A123 := Aside0.mk A1230
        clear A1230
        replace H := Option.bind_eq_some_iff.mp H
        obtain ⟨t205, A1240, H⟩ := H
        replace H : (some (t205, 0)) = some (r1, r2) := H
        have A124 := Aside0.mk A1240
        clear A1240
        simp only [Option.some.injEq, Prod.mk.injEq] at H
        obtain ⟨rfl, rfl⟩ := H
        go_enter Try.func64, Try.ntmps64
        try go_wp2_with (first | ((with_reducible refine gate_dst (N := 1) rfl ?_); refine bx_ (N := 1) (cs := #[.int .i64 a0_0, .int .i64 a0_1, .int .i64 a0_2, .slice A0_3 l0_3.length c0_3, .int .i64 a0_4, .int .i64 a0_5, .int .i64 a0_6]) (t := 31) ?_; intro gb141 hg w125 hbox hb; have n0_ := Aside0.mk (below_step (bl0_ HB) hb); have n1_ := Aside0.mk (hbox); have n2_ := Aside0.mk ((by rw [hg]; exact (below_size (bl0_ HB)) : w.heap.size ≤ gb141)); have n3_ := Aside0.mk ((by rw [hg]; exact (below_size (bl0_ HB)) : w.heap.size ≤ gb141)); clear HB; have HB := n0_; have BK141 := n1_; have GW141 := n2_; have GE141 := n3_; clear n0_ n1_ n2_ n3_; clear hb hbox hg; refine cz7_ BK141.out ?_; intro hcz126_0 hcz126_1 hcz126_2 hcz126_3 hcz126_4 hcz126_5 hcz126_6 hfz126_0 hfz126_1 hfz126_2 hfz126_3 hfz126_4 hfz126_5 hfz126_6) | ((with_reducible refine gate_callee (f := 29) rfl ?_); refine goesL_ (some 7) rfl rfl Try.func29 (by kernel_rfl) rfl #[.agg #[.int .i64 a0_0, .int .i64 a0_1, .int .i64 a0_2, .slice A0_3 l0_3.length c0_3, .int .i64 a0_4, .int .i64 a0_5, .int .i64 a0_6]] rfl ar_ ?_; (with_reducible refine (pdu_Check.calls a0_0 a0_1 a0_2 _ _ l0_3 a0_4 a0_5 a0_6 t142 _ ?side1 ?side2 A2.out).mono ?_); (case side1 => exact sc_ (Kd.C_below HR0_3.out HB.out)); (case side2 => exact HC0_3.out); rintro e w127 ⟨rfl, hb⟩; refine ⟨_, rfl, ?_⟩; have n0_ := Aside0.mk (blk_below (g := gb141) (bk_ BK141) hb); have n1_ := Aside0.mk (below_step (bl1_ HB GE141) hb); clear BK141; clear HB; have BK141 := n0_; have HB := n1_; clear n0_ n1_; (try clear hb); (try clear hb2); (try clear hk); (try clear hi); refine cz7_ BK141.out ?_; intro hcz128_0 hcz128_1 hcz128_2 hcz128_3 hcz128_4 hcz128_5 hcz128_6 hfz128_0 hfz128_1 hfz128_2 hfz128_3 hfz128_4 hfz128_5 hfz128_6) | ((with_reducible refine gate_dst (N := 14) rfl ?_); refine Kd.R_lit (Kd.int .u8) _ 5 ?hg (N := 14) ?hd (xs := ([(a0_0) % 256] : List Int)) (inner := [.int .u8 ((a0_0) % 256)]) (ok := fun _ => True) (okp := fun _ => True) ?hr ?hp (fun _ hk => hk) trivial (Below.refl _ _) (Nat.le_refl _) (by simp) ?_; (case hd => rfl); (case hg => rfl); (case hr => first | (go_simp; done) | (go_simp; rfl)); (case hp => exact (Reps.one (show Kd.M (Kd.int .u8) _ _ _ ((a0_0) % 256) [.int .u8 ((a0_0) % 256)] from rfl) (Reps.none _ _))); intro v144 w129 ho130 hb hg_ hnew_; clear hg_ hnew_; (first | rw [← Ny143.out] at ho130 | (simp only [Int.reduceToNat] at ho130; rw [← Ny143.out] at ho130)); have n0_ := Aside0.mk (Kd.R_lower ho130 (below_size (bl1_ HB GE141))); have n1_ := Aside0.mk (blk_below (g := gb141) (bk_ BK141) hb); have n2_ := Aside0.mk (below_step (bl1_ HB GE141) hb); clear BK141; clear HB; have HO145 := n0_; have BK141 := n1_; have HB := n2_; clear n0_ n1_ n2_; clear hb ho130; refine cz7_ BK141.out ?_; intro hcz131_0 hcz131_1 hcz131_2 hcz131_3 hcz131_4 hcz131_5 hcz131_6 hfz131_0 hfz131_1 hfz131_2 hfz131_3 hfz131_4 hfz131_5 hfz131_6) | ((with_reducible refine gate_dst (N := 17) rfl ?_); refine Kd.R_lit (Kd.int .i64) _ 3 ?hg (N := 17) ?hd (xs := ([a0_1] : List Int)) (inner := [.int .i64 a0_1]) (ok := fun _ => True) (okp := fun _ => True) ?hr ?hp (fun _ hk => hk) trivial (Below.refl _ _) (Nat.le_refl _) (by simp) ?_; (case hd => rfl); (case hg => rfl); (case hr => first | (go_simp; done) | (go_simp; rfl)); (case hp => exact (Reps.one (show Kd.M (Kd.int .i64) _ _ _ a0_1 [.int .i64 a0_1] from rfl) (Reps.none _ _))); intro v147 w132 ho133 hb hg_ hnew_; clear hg_ hnew_; (first | rw [← Ny146.out] at ho133 | (simp only [Int.reduceToNat] at ho133; rw [← Ny146.out] at ho133)); have n0_ := Aside0.mk (Kd.R_below (kr_ HO145) hb); have n1_ := Aside0.mk (Kd.R_lower ho133 (below_size (bl1_ HB GE141))); have n2_ := Aside0.mk (blk_below (g := gb141) (bk_ BK141) hb); have n3_ := Aside0.mk (below_step (bl1_ HB GE141) hb); clear HO145; clear BK141; clear HB; have HO145 := n0_; have HO148 := n1_; have BK141 := n2_; have HB := n3_; clear n0_ n1_ n2_ n3_; clear hb ho133; obtain ⟨Ao134, co134, eo134⟩ := Kd.R_slice HO145.out; subst eo134; obtain ⟨Ao135, co135, eo135⟩ := Kd.R_slice HO148.out; subst eo135) | ((with_reducible refine gate_callee (f := 63) rfl ?_); refine goesL_ (some 18) rfl rfl Try.func63 (by kernel_rfl) rfl #[.slice Ao134 y143.length co134, .slice Ao135 y146.length co135] rfl ar_ ?_; (with_reducible refine (pdu_lay.calls _ _ y143 _ _ y146 t149 _ ?side1 ?side2 ?side3 ?side4 A4.out).mono ?_); (case side1 => exact sc_ (Kd.R_reads' HO145.out).2.2); (case side2 => exact (Kd.R_reads' HO145.out).2.1); (case side3 => exact sc_ (Kd.R_reads' HO148.out).2.2); (case side4 => exact (Kd.R_reads' HO148.out).2.1); rintro e w136 ⟨v150, rfl, ho0, hb⟩; refine ⟨_, rfl, ?_⟩; have n0_ := Aside0.mk (Kd.R_elder' (kr_ HO145) (Kd.R_base ho0) hb); have n1_ := Aside0.mk (Kd.R_below (kr_ HO148) hb); have n2_ := Aside0.mk (Kd.R_lower (Kd.R_new' ho0 (Kd.R_lt (kr_ HO145))) (below_size (bl1_ HB GE141))); have n3_ := Aside0.mk (blk_below (g := gb141) (bk_ BK141) hb); have n4_ := Aside0.mk (below_step (bl1_ HB GE141) hb); clear HO145; clear HO148; clear BK141; clear HB; have HO145 := n0_; have HO148 := n1_; have HO151 := n2_; have BK141 := n3_; have HB := n4_; clear n0_ n1_ n2_ n3_ n4_; (try clear hb); (try clear hb2); (try clear hk); (try clear hi); (try clear ho0); refine cz7_ BK141.out ?_; intro hcz137_0 hcz137_1 hcz137_2 hcz137_3 hcz137_4 hcz137_5 hcz137_6 hfz137_0 hfz137_1 hfz137_2 hfz137_3 hfz137_4 hfz137_5 hfz137_6))
        have n0_ := Aside0.mk (Kd.R_drew HO145.out)
        have n1_ := Aside0.mk (Kd.R_drew HO148.out)
        have n2_ := Aside0.mk (Kd.R_drew HO151.out)
        have n3_ := Aside0.mk (blk_drew BK141.out)
        have n4_ := Aside0.mk (below_drew1 HB.out)
        clear HO145
        clear HO148
        clear HO151
        clear BK141
        clear HB
        have HO145 := n0_
        have HO148 := n1_
        have HO151 := n2_
        have BK141 := n3_
        have HB := n4_
        clear n0_ n1_ n2_ n3_ n4_
        refine start_ (n := 10) (S := fun w' => w'.cell? ⟨gb141, 0, none⟩ = some (.int .i64 a0_0) ∧ w'.cell? ⟨gb141, 1, none⟩ = some (.int .i64 a0_1) ∧ w'.cell? ⟨gb141, 2, none⟩ = some (.int .i64 a0_2) ∧ w'.cell? ⟨gb141, 3, none⟩ = some (.slice A0_3 l0_3.length c0_3) ∧ w'.cell? ⟨gb141, 4, none⟩ = some (.int .i64 a0_4) ∧ w'.cell? ⟨gb141, 5, none⟩ = some (.int .i64 a0_5) ∧ w'.cell? ⟨gb141, 6, none⟩ = some (.int .i64 a0_6)) (ds := []) #[false, false, false, false, false, false, false, false, false, false] (by kernel_rfl) rfl rfl ⟨(blk_cell BK141.out 0).trans rfl, (blk_cell BK141.out 1).trans rfl, (blk_cell BK141.out 2).trans rfl, (blk_cell BK141.out 3).trans rfl, (blk_cell BK141.out 4).trans rfl, (blk_cell BK141.out 5).trans rfl, (blk_cell BK141.out 6).trans rfl⟩ (fun hHeld => ?_); refine with_tabW pdu_Bytes.tab19 pdu_Bytes.bits19 (fun HT_ HW_ => ?_)
        generalize w136.drew = w138 at HO145 HO148 HO151 BK141 HB hHeld ⊢
        refine pure_ (i := 0) (N := some 84) (v := ?_) (a' := ?_) #[true, false, false, false, false, false, false, false, false, false] rfl rfl (any_of HT_.out (by kernel_rfl)) (fun _ _ _ h => h) (Or.inl ⟨by rfl, ?_⟩) ?_ ?_
        rotate_left
        ·intro w'
         go_simp
         with_reducible rfl
        rotate_left
        ·simp only [Act.put, List.setIfInBounds_toArray, List.set_cons_zero, List.set_cons_succ, i64_w, i32_w]
         rfl
        refine pure_ (i := 1) (N := some 85) (v := ?_) (a' := ?_) #[true, true, false, false, false, false, false, false, false, false] rfl rfl (any_of HT_.out (by kernel_rfl)) (fun _ _ _ h => h) (Or.inl ⟨by rfl, ?_⟩) ?_ ?_
        rotate_left
        ·intro w'
         go_simp
         with_reducible rfl
        rotate_left
        ·simp only [Act.put, List.setIfInBounds_toArray, List.set_cons_zero, List.set_cons_succ, i64_w, i32_w]
         rfl
        refine pure_ (i := 5) (N := some 89) (v := ?_) (a' := ?_) #[true, true, false, false, false, true, false, false, false, false] rfl rfl (any_of HT_.out (by kernel_rfl)) (fun _ _ _ h => h) (Or.inl ⟨by rfl, ?_⟩) ?_ ?_
        rotate_left
        ·intro w'
         go_simp
         with_reducible rfl
        rotate_left
        ·simp only [Act.put, List.setIfInBounds_toArray, List.set_cons_zero, List.set_cons_succ, i64_w, i32_w]
         rfl
        refine take_ (i := 2) (N := some 86) (v := ?_) (a' := ?_) #[true, true, true, false, false, true, false, false, false, false] rfl rfl (take_ofW HT_.out HW_.out (by kernel_rfl)) (fun _ _ _ h => h) (Or.inl ⟨by rfl, ?_⟩) hHeld ?_ ?_
        rotate_left
        ·rintro w' ⟨s0, s1, s2, s3, s4, s5, s6⟩
         go_simp
         with_reducible rfl
        rotate_left
        ·simp only [Act.put, List.setIfInBounds_toArray, List.set_cons_zero, List.set_cons_succ, i64_w, i32_w]
         rfl
        refine take_ (i := 6) (N := some 90) (v := ?_) (a' := ?_) #[true, true, true, false, false, true, true, false, false, false] rfl rfl (take_ofW HT_.out HW_.out (by kernel_rfl)) (fun _ _ _ h => h) (Or.inl ⟨by rfl, ?_⟩) hHeld ?_ ?_
        rotate_left
        ·rintro w' ⟨s0, s1, s2, s3, s4, s5, s6⟩
         go_simp
         with_reducible rfl
        rotate_left
        ·simp only [Act.put, List.setIfInBounds_toArray, List.set_cons_zero, List.set_cons_succ, i64_w, i32_w]
         rfl
        refine one_ (i := 3) (N := some 87) #[true, true, true, true, false, true, true, false, false, false] rfl rfl (one_of HT_.out (by kernel_rfl)) (by decide) (fun K hK => ?_)
        refine Kd.R_lit_step (Kd.int .i64) _ 3 ?hg (N := 87) ?hd (xs := ([a0_2] : List Int)) (inner := [.int .i64 a0_2]) (ok := fun _ => True) (okp := fun _ => True) ?hr ?hp (fun _ hk => hk) trivial (Below.refl _ _) (Nat.le_refl _) (by simp) ?_; (case hd => rfl); (case hg => rfl); (case hr => first | (go_simp; done) | (go_simp; rfl)); (case hp => exact (Reps.one (show Kd.M (Kd.int .i64) _ _ _ a0_2 [.int .i64 a0_2] from rfl) (Reps.none _ _)))
        intro v197 w139 ho140 hb hg_ hnew_
        clear hg_ hnew_
        (first | rw [← Ny196.out] at ho140 | (simp only [Int.reduceToNat] at ho140; rw [← Ny196.out] at ho140))
        have n0_ := Aside0.mk (Kd.R_below (kr_ HO145) hb)
        have n1_ := Aside0.mk (Kd.R_elder' (kr_ HO148) (Kd.R_base ho140) hb)
        have n2_ := Aside0.mk (Kd.R_below (kr_ HO151) hb)
        have n3_ := Aside0.mk (Kd.R_lower (Kd.R_new' ho140 (Kd.R_lt (kr_ HO148))) (below_size (bl1_ HB GE141)))
        have n4_ := Aside0.mk (blk_below (g := gb141) (bk_ BK141) hb)
        have n5_ := Aside0.mk (below_step (bl1_ HB GE141) hb)
        clear HO145
        clear HO148
        clear HO151
        clear BK141
        clear HB
        have HO145 := n0_
        have HO148 := n1_
        have HO151 := n2_
        have HO198 := n3_
        have BK141 := n4_
        have HB := n5_
        clear n0_ n1_ n2_ n3_ n4_ n5_
        clear hb ho140
        obtain ⟨Ao141, co141, eo141⟩ := Kd.R_slice HO151.out
        (first | subst eo141 | (injection eo141 with f1_ f2_ f3_; have f4_ := f1_.symm; have f5_ := f3_.symm; clear f1_ f2_ f3_; subst f4_; subst f5_))
        obtain ⟨Ao142, co142, eo142⟩ := Kd.R_slice HO198.out
        (first | subst eo142 | (injection eo142 with f1_ f2_ f3_; have f4_ := f1_.symm; have f5_ := f3_.symm; clear f1_ f2_ f3_; subst f4_; subst f5_))
        refine hK.out _ _ ⟨(blk_cell BK141.out 0).trans rfl, (blk_cell BK141.out 1).trans rfl, (blk_cell BK141.out 2).trans rfl, (blk_cell BK141.out 3).trans rfl, (blk_cell BK141.out 4).trans rfl, (blk_cell BK141.out 5).trans rfl, (blk_cell BK141.out 6).trans rfl⟩ (fun hHeld => ?_)
        clear hK K
        refine norm_ (a' := ?_) ?_ ?_
        rotate_left
        ·show Act.put _ (some 87) _ = _
         simp only [Act.put, List.setIfInBounds_toArray, List.set_cons_zero, List.set_cons_succ, i64_w, i32_w]
         rfl
        refine one_ (i := 4) (N := some 88) #[true, true, true, true, true, true, true, false, false, false] rfl rfl (one_of HT_.out (by kernel_rfl)) (by decide) (fun K hK => ?_)
        refine goes_ Try.func63 (by kernel_rfl) rfl #[.slice Ao141 t149.length co141, .slice Ao142 y196.length co142] (by rfl) rfl rfl ar_ ?_
        with_reducible refine (pdu_lay.calls _ _ t149 _ _ y196 t199 _ ?side1 ?side2 ?side3 ?side4 A122.out).mono ?_
        (case side1 => exact sc_ (Kd.R_reads' HO151.out).2.2)
        (case side2 => exact (Kd.R_reads' HO151.out).2.1)
        (case side3 => exact sc_ (Kd.R_reads' HO198.out).2.2)
        (case side4 => exact (Kd.R_reads' HO198.out).2.1)
        rintro e w143 ⟨v200, rfl, ho0, hb⟩
        refine ⟨_, rfl, ?_⟩
        have n0_ := Aside0.mk (Kd.R_elder' (kr_ HO145) (Kd.R_base ho0) hb)
        have n1_ := Aside0.mk (Kd.R_below (kr_ HO148) hb)
        have n2_ := Aside0.mk (Kd.R_elder' (kr_ HO151) (Kd.R_base ho0) hb)
        have n3_ := Aside0.mk (Kd.R_below (kr_ HO198) hb)
        have n4_ := Aside0.mk (Kd.R_lower (Kd.R_new' (Kd.R_new' ho0 (Kd.R_lt (kr_ HO145))) (Kd.R_lt (kr_ HO151))) (below_size (bl1_ HB GE141)))
        have n5_ := Aside0.mk (blk_below (g := gb141) (bk_ BK141) hb)
        have n6_ := Aside0.mk (below_step (bl1_ HB GE141) hb)
        clear HO145
        clear HO148
        clear HO151
        clear HO198
        clear BK141
        clear HB
        have HO145 := n0_
        have HO148 := n1_
        have HO151 := n2_
        have HO198 := n3_
        have HO201 := n4_
        have BK141 := n5_
        have HB := n6_
        clear n0_ n1_ n2_ n3_ n4_ n5_ n6_
        (try clear hb)
        (try clear hb2)
        (try clear hk)
        (try clear hi)
        (try clear ho0)
        refine hK.out _ _ ⟨(blk_cell BK141.out 0).trans rfl, (blk_cell BK141.out 1).trans rfl, (blk_cell BK141.out 2).trans rfl, (blk_cell BK141.out 3).trans rfl, (blk_cell BK141.out 4).trans rfl, (blk_cell BK141.out 5).trans rfl, (blk_cell BK141.out 6).trans rfl⟩ (fun hHeld => ?_)
        clear hK K
        refine norm_ (a' := ?_) ?_ ?_
        rotate_left
        ·show Act.put _ (some 88) _ = _
         simp only [Act.put, List.setIfInBounds_toArray, List.set_cons_zero, List.set_cons_succ, i64_w, i32_w]
         rfl
        refine one_ (i := 7) (N := some 91) #[true, true, true, true, true, true, true, true, false, false] rfl rfl (one_of HT_.out (by kernel_rfl)) (by decide) (fun K hK => ?_)
        refine goes_ Try.func63 (by kernel_rfl) rfl #[.slice none 0 0, .slice A0_3 l0_3.length c0_3] (by rfl) rfl rfl ar_ ?_
        refine (pdu_lay.calls _ _ ([] : List Int) _ _ l0_3 t202 _ ?side1 ?side2 ?side3 ?side4 A123.out).mono ?_
        (case side1 => exact Kd.C_nil _ _)
        (case side2 => exact Nat.le_refl _)
        (case side3 => exact sc_ (Kd.C_below HR0_3.out HB.out))
        (case side4 => exact HC0_3.out)
        rintro e w144 ⟨v203, rfl, ho0, hb⟩
        refine ⟨_, rfl, ?_⟩
        have n0_ := Aside0.mk (Kd.R_elder' (kr_ HO145) (Kd.R_base ho0) hb)
        have n1_ := Aside0.mk (Kd.R_below (kr_ HO148) hb)
        have n2_ := Aside0.mk (Kd.R_elder' (kr_ HO151) (Kd.R_base ho0) hb)
        have n3_ := Aside0.mk (Kd.R_below (kr_ HO198) hb)
        have n4_ := Aside0.mk (Kd.R_elder' (kr_ HO201) (Kd.R_base ho0) hb)
        have n5_ := Aside0.mk (Kd.R_lower (Kd.R_new' (Kd.R_new' (Kd.R_new' ho0 (Kd.R_lt (kr_ HO145))) (Kd.R_lt (kr_ HO151))) (Kd.R_lt (kr_ HO201))) (below_size (bl1_ HB GE141)))
        have n6_ := Aside0.mk (blk_below (g := gb141) (bk_ BK141) hb)
        have n7_ := Aside0.mk (below_step (bl1_ HB GE141) hb)
        clear HO145
        clear HO148
        clear HO151
        clear HO198
        clear HO201
        clear BK141
        clear HB
        have HO145 := n0_
        have HO148 := n1_
        have HO151 := n2_
        have HO198 := n3_
        have HO201 := n4_
        have HO204 := n5_
        have BK141 := n6_
        have HB := n7_
        clear n0_ n1_ n2_ n3_ n4_ n5_ n6_ n7_
        (try clear hb)
        (try clear hb2)
        (try clear hk)
        (try clear hi)
        (try clear ho0)
        obtain ⟨Ao145, co145, eo145⟩ := Kd.R_slice HO201.out
        (first | subst eo145 | (injection eo145 with f1_ f2_ f3_; have f4_ := f1_.symm; have f5_ := f3_.symm; clear f1_ f2_ f3_; subst f4_; subst f5_))
        obtain ⟨Ao146, co146, eo146⟩ := Kd.R_slice HO204.out
        (first | subst eo146 | (injection eo146 with f1_ f2_ f3_; have f4_ := f1_.symm; have f5_ := f3_.symm; clear f1_ f2_ f3_; subst f4_; subst f5_))
        refine hK.out _ _ ⟨(blk_cell BK141.out 0).trans rfl, (blk_cell BK141.out 1).trans rfl, (blk_cell BK141.out 2).trans rfl, (blk_cell BK141.out 3).trans rfl, (blk_cell BK141.out 4).trans rfl, (blk_cell BK141.out 5).trans rfl, (blk_cell BK141.out 6).trans rfl⟩ (fun hHeld => ?_)
        clear hK K
        refine norm_ (a' := ?_) ?_ ?_
        rotate_left
        ·show Act.put _ (some 91) _ = _
         simp only [Act.put, List.setIfInBounds_toArray, List.set_cons_zero, List.set_cons_succ, i64_w, i32_w]
         rfl
        refine one_ (i := 8) (N := some 92) #[true, true, true, true, true, true, true, true, true, false] rfl rfl (one_of HT_.out (by kernel_rfl)) (by decide) (fun K hK => ?_)
        refine goes_ Try.func61 (by kernel_rfl) rfl #[.slice Ao145 t199.length co145, .slice Ao146 t202.length co146] (by rfl) rfl rfl ar_ ?_
        with_reducible refine (pdu_counted.calls (fun k_ => some k_ = (.slice Ao145 t199.length co145 : Value).ownBlock) (.slice Ao145 t199.length co145) t199 _ _ t202 t205 w _ ?side1 ?side2 ?side3 ?side4 A124.out).mono ?_
        (case side1 => repeat (first | (with_reducible first | exact HB.out | apply below_alloc | apply pw_below_drewN | apply below_drew1 | refine below_set ?_ GE141.out) | exact HB.out))
        (case side2 => exact Kd.R_tight rfl HO201.out)
        (case side3 => exact Kd.C_kept_own (HO204.out) (fun k_ hk_ hs_ => (hk_.2) hs_))
        (case side4 => exact (Kd.R_reads' HO204.out).2.1)
        rintro e w147 ⟨v206, rfl, ho0, hb, hkp⟩
        refine ⟨_, rfl, ?_⟩
        have n0_ := Aside0.mk (blk_kept (bk_ BK141) hkp (fun hs_ => (fun e_ => (Kd.R_ne HO201.out BK141.out (by decide)) e_) hs_))
        have n1_ := Aside0.mk (Kd.R_mono (ok' := fun k_ => some k_ ≠ (.slice Ao141 t149.length co141 : Value).ownBlock ∧ some k_ ≠ (.slice Ao146 t202.length co146 : Value).ownBlock ∧ some k_ ≠ (v206 : Value).ownBlock) (Kd.R_keptB (HO145.out) hkp (fun k_ hk_ hs_ => (hk_.1.2) hs_)) (fun k_ hk_ => ⟨hk_.1.1.1.2, hk_.1.2, fun e_ => Or.elim (ho0.1 k_ e_.symm) (fun hs_ => hk_.2.1 hs_) (fun hn_ => Nat.not_le.2 hk_.2.2 hn_)⟩))
        have n2_ := Aside0.mk (Kd.R_mono (ok' := fun k_ => some k_ ≠ (.slice Ao142 y196.length co142 : Value).ownBlock) (Kd.R_keptB ((Kd.R_apart' HO148.out (Kd.R_typed HO201.out) (by decide))) hkp (fun k_ hk_ hs_ => (hk_.2) hs_)) (fun k_ hk_ => hk_.1.1.2))
        have n3_ := Aside0.mk (Kd.R_mono (ok' := fun k_ => some k_ ≠ (.slice Ao134 y143.length co134 : Value).ownBlock ∧ some k_ ≠ (.slice Ao146 t202.length co146 : Value).ownBlock ∧ some k_ ≠ (v206 : Value).ownBlock) (Kd.R_keptB (HO151.out) hkp (fun k_ hk_ hs_ => (hk_.1.2) hs_)) (fun k_ hk_ => ⟨hk_.1.1.1.2, hk_.1.2, fun e_ => Or.elim (ho0.1 k_ e_.symm) (fun hs_ => hk_.2.1 hs_) (fun hn_ => Nat.not_le.2 hk_.2.2 hn_)⟩))
        have n4_ := Aside0.mk (Kd.R_mono (ok' := fun k_ => some k_ ≠ (.slice Ao135 y146.length co135 : Value).ownBlock) (Kd.R_keptB ((Kd.R_apart' HO198.out (Kd.R_typed HO201.out) (by decide))) hkp (fun k_ hk_ hs_ => (hk_.2) hs_)) (fun k_ hk_ => hk_.1.1.2))
        have n5_ := Aside0.mk (Kd.R_mono (ok' := fun k_ => some k_ ≠ (.slice Ao134 y143.length co134 : Value).ownBlock ∧ some k_ ≠ (.slice Ao141 t149.length co141 : Value).ownBlock ∧ some k_ ≠ (v206 : Value).ownBlock) (Kd.R_keptB (HO204.out) hkp (fun k_ hk_ hs_ => (hk_.2) hs_)) (fun k_ hk_ => ⟨hk_.1.1.1.2, hk_.1.1.2, fun e_ => Or.elim (ho0.1 k_ e_.symm) (fun hs_ => hk_.2.1 hs_) (fun hn_ => Nat.not_le.2 hk_.2.2 hn_)⟩))
        have n6_ := Aside0.mk (Kd.R_mono (ok' := fun k_ => some k_ ≠ (.slice Ao134 y143.length co134 : Value).ownBlock ∧ some k_ ≠ (.slice Ao141 t149.length co141 : Value).ownBlock ∧ some k_ ≠ (.slice Ao146 t202.length co146 : Value).ownBlock) ho0 (fun k_ hk_ => ⟨Or.elim hk_ (fun hs_ => fun e_ => (((HO145.out).1 k_ e_.symm).1.2) hs_) (fun hn_ => (Kd.fresh' (Kd.R_lt (kr_ HO145)) k_ hn_)), Or.elim hk_ (fun hs_ => fun e_ => (((HO151.out).1 k_ e_.symm).1.2) hs_) (fun hn_ => (Kd.fresh' (Kd.R_lt (kr_ HO151)) k_ hn_)), Or.elim hk_ (fun hs_ => fun e_ => (((HO204.out).1 k_ e_.symm).2) hs_) (fun hn_ => (Kd.fresh' (Kd.R_lt (kr_ HO204)) k_ hn_))⟩))
        have n7_ := Aside0.mk (hb)
        clear BK141
        clear HO145
        clear HO148
        clear HO151
        clear HO198
        clear HO204
        clear HB
        clear HO201
        have BK141 := n0_
        have HO145 := n1_
        have HO148 := n2_
        have HO151 := n3_
        have HO198 := n4_
        have HO204 := n5_
        have HO207 := n6_
        have HB := n7_
        clear n0_ n1_ n2_ n3_ n4_ n5_ n6_ n7_
        (try clear hb)
        (try clear hkp)
        (try clear ho0)
        refine hK.out _ _ ⟨(blk_cell BK141.out 0).trans rfl, (blk_cell BK141.out 1).trans rfl, (blk_cell BK141.out 2).trans rfl, (blk_cell BK141.out 3).trans rfl, (blk_cell BK141.out 4).trans rfl, (blk_cell BK141.out 5).trans rfl, (blk_cell BK141.out 6).trans rfl⟩ (fun hHeld => ?_)
        clear hK K
        refine norm_ (a' := ?_) ?_ ?_
        rotate_left
        ·show Act.put _ (some 92) _ = _
         simp only [Act.put, List.setIfInBounds_toArray, List.set_cons_zero, List.set_cons_succ, i64_w, i32_w]
         rfl
        refine pure_ (i := 9) (N := some 5) (v := ?_) (a' := ?_) #[true, true, true, true, true, true, true, true, true, true] rfl rfl (any_of HT_.out (by kernel_rfl)) (fun _ _ _ h => h) (Or.inl ⟨by rfl, ?_⟩) ?_ ?_
        rotate_left
        ·intro w'
         go_simp
         with_reducible rfl
        rotate_left
        ·simp only [Act.put, List.setIfInBounds_toArray, List.set_cons_zero, List.set_cons_succ, i64_w, i32_w]
         rfl
        refine done_ (done_of HT_.out (by kernel_rfl)) ?_
        try go_wp2
        go_ret2
        exact ⟨_, er_, by (with_reducible repeat (first | apply Kd.R_alloc | apply Kd.R_drewN | apply Kd.R_drew)); exact Kd.R_mono HO207.out (fun _ hk => trivial), bl1_ HB GE141⟩
       ·rw [if_neg c121] at H
        have c121b0 : (a0_0 == 16) = false := beq_eq_false_iff_ne.mpr c121
        have c121b1 : (a0_0 != 16) = true := bne_iff_ne.mpr c121
        obtain ⟨y208, hy208⟩ : ∃ y_ : List Int, y_ = (([a0_2] : List Int)) := ⟨_, rfl⟩
        replace H : ((pdu_lay.f t149 y208).bind fun t211 => (some (t211, 0))) = some (r1, r2) := by first | (rw [hy208]; with_reducible exact H) | (have H2_ := (Option.bind_some _ _).symm.trans H; rw [hy208]; with_reducible exact H2_) | (have H2_ := (Option.bind_some _ _).symm.trans H; with_reducible exact H2_) | with_reducible exact H | (rw [hy208]; exact H) | exact H
        have Ny208 := Aside0.mk hy208
        clear hy208
        replace H := Option.bind_eq_some_iff.mp H
        obtain ⟨t211, A1480, H⟩ := H
        replace H : (some (t211, 0)) = some (r1, r2) := H
        have A148 := Aside0.mk A1480
        clear A1480
        simp only [Option.some.injEq, Prod.mk.injEq] at H
        obtain ⟨rfl, rfl⟩ := H
        go_enter Try.func64, Try.ntmps64
        go_wp2_with (first | ((with_reducible refine gate_dst (N := 1) rfl ?_); refine bx_ (N := 1) (cs := #[.int .i64 a0_0, .int .i64 a0_1, .int .i64 a0_2, .slice A0_3 l0_3.length c0_3, .int .i64 a0_4, .int .i64 a0_5, .int .i64 a0_6]) (t := 31) ?_; intro gb141 hg w149 hbox hb; have n0_ := Aside0.mk (below_step (bl0_ HB) hb); have n1_ := Aside0.mk (hbox); have n2_ := Aside0.mk ((by rw [hg]; exact (below_size (bl0_ HB)) : w.heap.size ≤ gb141)); have n3_ := Aside0.mk ((by rw [hg]; exact (below_size (bl0_ HB)) : w.heap.size ≤ gb141)); clear HB; have HB := n0_; have BK141 := n1_; have GW141 := n2_; have GE141 := n3_; clear n0_ n1_ n2_ n3_; clear hb hbox hg; refine cz7_ BK141.out ?_; intro hcz150_0 hcz150_1 hcz150_2 hcz150_3 hcz150_4 hcz150_5 hcz150_6 hfz150_0 hfz150_1 hfz150_2 hfz150_3 hfz150_4 hfz150_5 hfz150_6) | ((with_reducible refine gate_callee (f := 29) rfl ?_); refine goesL_ (some 7) rfl rfl Try.func29 (by kernel_rfl) rfl #[.agg #[.int .i64 a0_0, .int .i64 a0_1, .int .i64 a0_2, .slice A0_3 l0_3.length c0_3, .int .i64 a0_4, .int .i64 a0_5, .int .i64 a0_6]] rfl ar_ ?_; (with_reducible refine (pdu_Check.calls a0_0 a0_1 a0_2 _ _ l0_3 a0_4 a0_5 a0_6 t142 _ ?side1 ?side2 A2.out).mono ?_); (case side1 => exact sc_ (Kd.C_below HR0_3.out HB.out)); (case side2 => exact HC0_3.out); rintro e w151 ⟨rfl, hb⟩; refine ⟨_, rfl, ?_⟩; have n0_ := Aside0.mk (blk_below (g := gb141) (bk_ BK141) hb); have n1_ := Aside0.mk (below_step (bl1_ HB GE141) hb); clear BK141; clear HB; have BK141 := n0_; have HB := n1_; clear n0_ n1_; (try clear hb); (try clear hb2); (try clear hk); (try clear hi); refine cz7_ BK141.out ?_; intro hcz152_0 hcz152_1 hcz152_2 hcz152_3 hcz152_4 hcz152_5 hcz152_6 hfz152_0 hfz152_1 hfz152_2 hfz152_3 hfz152_4 hfz152_5 hfz152_6) | ((with_reducible refine gate_dst (N := 14) rfl ?_); refine Kd.R_lit (Kd.int .u8) _ 5 ?hg (N := 14) ?hd (xs := ([(a0_0) % 256] : List Int)) (inner := [.int .u8 ((a0_0) % 256)]) (ok := fun _ => True) (okp := fun _ => True) ?hr ?hp (fun _ hk => hk) trivial (Below.refl _ _) (Nat.le_refl _) (by simp) ?_; (case hd => rfl); (case hg => rfl); (case hr => first | (go_simp; done) | (go_simp; rfl)); (case hp => exact (Reps.one (show Kd.M (Kd.int .u8) _ _ _ ((a0_0) % 256) [.int .u8 ((a0_0) % 256)] from rfl) (Reps.none _ _))); intro v144 w153 ho154 hb hg_ hnew_; clear hg_ hnew_; (first | rw [← Ny143.out] at ho154 | (simp only [Int.reduceToNat] at ho154; rw [← Ny143.out] at ho154)); have n0_ := Aside0.mk (Kd.R_lower ho154 (below_size (bl1_ HB GE141))); have n1_ := Aside0.mk (blk_below (g := gb141) (bk_ BK141) hb); have n2_ := Aside0.mk (below_step (bl1_ HB GE141) hb); clear BK141; clear HB; have HO145 := n0_; have BK141 := n1_; have HB := n2_; clear n0_ n1_ n2_; clear hb ho154; refine cz7_ BK141.out ?_; intro hcz155_0 hcz155_1 hcz155_2 hcz155_3 hcz155_4 hcz155_5 hcz155_6 hfz155_0 hfz155_1 hfz155_2 hfz155_3 hfz155_4 hfz155_5 hfz155_6) | ((with_reducible refine gate_dst (N := 17) rfl ?_); refine Kd.R_lit (Kd.int .i64) _ 3 ?hg (N := 17) ?hd (xs := ([a0_1] : List Int)) (inner := [.int .i64 a0_1]) (ok := fun _ => True) (okp := fun _ => True) ?hr ?hp (fun _ hk => hk) trivial (Below.refl _ _) (Nat.le_refl _) (by simp) ?_; (case hd => rfl); (case hg => rfl); (case hr => first | (go_simp; done) | (go_simp; rfl)); (case hp => exact (Reps.one (show Kd.M (Kd.int .i64) _ _ _ a0_1 [.int .i64 a0_1] from rfl) (Reps.none _ _))); intro v147 w156 ho157 hb hg_ hnew_; clear hg_ hnew_; (first | rw [← Ny146.out] at ho157 | (simp only [Int.reduceToNat] at ho157; rw [← Ny146.out] at ho157)); have n0_ := Aside0.mk (Kd.R_below (kr_ HO145) hb); have n1_ := Aside0.mk (Kd.R_lower ho157 (below_size (bl1_ HB GE141))); have n2_ := Aside0.mk (blk_below (g := gb141) (bk_ BK141) hb); have n3_ := Aside0.mk (below_step (bl1_ HB GE141) hb); clear HO145; clear BK141; clear HB; have HO145 := n0_; have HO148 := n1_; have BK141 := n2_; have HB := n3_; clear n0_ n1_ n2_ n3_; clear hb ho157; obtain ⟨Ao158, co158, eo158⟩ := Kd.R_slice HO145.out; subst eo158; obtain ⟨Ao159, co159, eo159⟩ := Kd.R_slice HO148.out; subst eo159) | ((with_reducible refine gate_callee (f := 63) rfl ?_); refine goesL_ (some 18) rfl rfl Try.func63 (by kernel_rfl) rfl #[.slice Ao158 y143.length co158, .slice Ao159 y146.length co159] rfl ar_ ?_; (with_reducible refine (pdu_lay.calls _ _ y143 _ _ y146 t149 _ ?side1 ?side2 ?side3 ?side4 A4.out).mono ?_); (case side1 => exact sc_ (Kd.R_reads' HO145.out).2.2); (case side2 => exact (Kd.R_reads' HO145.out).2.1); (case side3 => exact sc_ (Kd.R_reads' HO148.out).2.2); (case side4 => exact (Kd.R_reads' HO148.out).2.1); rintro e w160 ⟨v150, rfl, ho0, hb⟩; refine ⟨_, rfl, ?_⟩; have n0_ := Aside0.mk (Kd.R_elder' (kr_ HO145) (Kd.R_base ho0) hb); have n1_ := Aside0.mk (Kd.R_below (kr_ HO148) hb); have n2_ := Aside0.mk (Kd.R_lower (Kd.R_new' ho0 (Kd.R_lt (kr_ HO145))) (below_size (bl1_ HB GE141))); have n3_ := Aside0.mk (blk_below (g := gb141) (bk_ BK141) hb); have n4_ := Aside0.mk (below_step (bl1_ HB GE141) hb); clear HO145; clear HO148; clear BK141; clear HB; have HO145 := n0_; have HO148 := n1_; have HO151 := n2_; have BK141 := n3_; have HB := n4_; clear n0_ n1_ n2_ n3_ n4_; (try clear hb); (try clear hb2); (try clear hk); (try clear hi); (try clear ho0); refine cz7_ BK141.out ?_; intro hcz161_0 hcz161_1 hcz161_2 hcz161_3 hcz161_4 hcz161_5 hcz161_6 hfz161_0 hfz161_1 hfz161_2 hfz161_3 hfz161_4 hfz161_5 hfz161_6) | ((with_reducible refine gate_dst (N := 24) rfl ?_); refine Kd.R_lit (Kd.int .i64) _ 3 ?hg (N := 24) ?hd (xs := ([a0_2] : List Int)) (inner := [.int .i64 a0_2]) (ok := fun _ => True) (okp := fun _ => True) ?hr ?hp (fun _ hk => hk) trivial (Below.refl _ _) (Nat.le_refl _) (by simp) ?_; (case hd => rfl); (case hg => rfl); (case hr => first | (go_simp; done) | (go_simp; rfl)); (case hp => exact (Reps.one (show Kd.M (Kd.int .i64) _ _ _ a0_2 [.int .i64 a0_2] from rfl) (Reps.none _ _))); intro v209 w162 ho163 hb hg_ hnew_; clear hg_ hnew_; (first | rw [← Ny208.out] at ho163 | (simp only [Int.reduceToNat] at ho163; rw [← Ny208.out] at ho163)); have n0_ := Aside0.mk (Kd.R_below (kr_ HO145) hb); have n1_ := Aside0.mk (Kd.R_elder' (kr_ HO148) (Kd.R_base ho163) hb); have n2_ := Aside0.mk (Kd.R_below (kr_ HO151) hb); have n3_ := Aside0.mk (Kd.R_lower (Kd.R_new' ho163 (Kd.R_lt (kr_ HO148))) (below_size (bl1_ HB GE141))); have n4_ := Aside0.mk (blk_below (g := gb141) (bk_ BK141) hb); have n5_ := Aside0.mk (below_step (bl1_ HB GE141) hb); clear HO145; clear HO148; clear HO151; clear BK141; clear HB; have HO145 := n0_; have HO148 := n1_; have HO151 := n2_; have HO210 := n3_; have BK141 := n4_; have HB := n5_; clear n0_ n1_ n2_ n3_ n4_ n5_; clear hb ho163; obtain ⟨Ao164, co164, eo164⟩ := Kd.R_slice HO151.out; subst eo164; obtain ⟨Ao165, co165, eo165⟩ := Kd.R_slice HO210.out; subst eo165) | ((with_reducible refine gate_callee (f := 63) rfl ?_); refine goesL_ (some 25) rfl rfl Try.func63 (by kernel_rfl) rfl #[.slice Ao164 t149.length co164, .slice Ao165 y208.length co165] rfl ar_ ?_; (with_reducible refine (pdu_lay.calls _ _ t149 _ _ y208 t211 _ ?side1 ?side2 ?side3 ?side4 A148.out).mono ?_); (case side1 => exact sc_ (Kd.R_reads' HO151.out).2.2); (case side2 => exact (Kd.R_reads' HO151.out).2.1); (case side3 => exact sc_ (Kd.R_reads' HO210.out).2.2); (case side4 => exact (Kd.R_reads' HO210.out).2.1); rintro e w166 ⟨v212, rfl, ho0, hb⟩; refine ⟨_, rfl, ?_⟩; have n0_ := Aside0.mk (Kd.R_elder' (kr_ HO145) (Kd.R_base ho0) hb); have n1_ := Aside0.mk (Kd.R_below (kr_ HO148) hb); have n2_ := Aside0.mk (Kd.R_elder' (kr_ HO151) (Kd.R_base ho0) hb); have n3_ := Aside0.mk (Kd.R_below (kr_ HO210) hb); have n4_ := Aside0.mk (Kd.R_lower (Kd.R_new' (Kd.R_new' ho0 (Kd.R_lt (kr_ HO145))) (Kd.R_lt (kr_ HO151))) (below_size (bl1_ HB GE141))); have n5_ := Aside0.mk (blk_below (g := gb141) (bk_ BK141) hb); have n6_ := Aside0.mk (below_step (bl1_ HB GE141) hb); clear HO145; clear HO148; clear HO151; clear HO210; clear BK141; clear HB; have HO145 := n0_; have HO148 := n1_; have HO151 := n2_; have HO210 := n3_; have HO213 := n4_; have BK141 := n5_; have HB := n6_; clear n0_ n1_ n2_ n3_ n4_ n5_ n6_; (try clear hb); (try clear hb2); (try clear hk); (try clear hi); (try clear ho0)))
        go_ret2
        exact ⟨_, er_, by (with_reducible repeat (first | apply Kd.R_alloc | apply Kd.R_drewN | apply Kd.R_drew)); exact Kd.R_mono HO213.out (fun _ hk => trivial), bl1_ HB GE141⟩
 ·rw [if_neg c3] at H
  have c3b0 : (t142 == 0) = false := beq_eq_false_iff_ne.mpr c3
  have c3b1 : (t142 != 0) = true := bne_iff_ne.mpr c3
  simp only [Option.some.injEq, Prod.mk.injEq] at H
  obtain ⟨rfl, rfl⟩ := H
  go_enter Try.func64, Try.ntmps64
  go_wp2_with (first | ((with_reducible refine gate_dst (N := 1) rfl ?_); refine bx_ (N := 1) (cs := #[.int .i64 a0_0, .int .i64 a0_1, .int .i64 a0_2, .slice A0_3 l0_3.length c0_3, .int .i64 a0_4, .int .i64 a0_5, .int .i64 a0_6]) (t := 31) ?_; intro gb141 hg w167 hbox hb; have n0_ := Aside0.mk (below_step (bl0_ HB) hb); have n1_ := Aside0.mk (hbox); have n2_ := Aside0.mk ((by rw [hg]; exact (below_size (bl0_ HB)) : w.heap.size ≤ gb141)); have n3_ := Aside0.mk ((by rw [hg]; exact (below_size (bl0_ HB)) : w.heap.size ≤ gb141)); clear HB; have HB := n0_; have BK141 := n1_; have GW141 := n2_; have GE141 := n3_; clear n0_ n1_ n2_ n3_; clear hb hbox hg; refine cz7_ BK141.out ?_; intro hcz168_0 hcz168_1 hcz168_2 hcz168_3 hcz168_4 hcz168_5 hcz168_6 hfz168_0 hfz168_1 hfz168_2 hfz168_3 hfz168_4 hfz168_5 hfz168_6) | ((with_reducible refine gate_callee (f := 29) rfl ?_); refine goesL_ (some 7) rfl rfl Try.func29 (by kernel_rfl) rfl #[.agg #[.int .i64 a0_0, .int .i64 a0_1, .int .i64 a0_2, .slice A0_3 l0_3.length c0_3, .int .i64 a0_4, .int .i64 a0_5, .int .i64 a0_6]] rfl ar_ ?_; (with_reducible refine (pdu_Check.calls a0_0 a0_1 a0_2 _ _ l0_3 a0_4 a0_5 a0_6 t142 _ ?side1 ?side2 A2.out).mono ?_); (case side1 => exact sc_ (Kd.C_below HR0_3.out HB.out)); (case side2 => exact HC0_3.out); rintro e w169 ⟨rfl, hb⟩; refine ⟨_, rfl, ?_⟩; have n0_ := Aside0.mk (blk_below (g := gb141) (bk_ BK141) hb); have n1_ := Aside0.mk (below_step (bl1_ HB GE141) hb); clear BK141; clear HB; have BK141 := n0_; have HB := n1_; clear n0_ n1_; (try clear hb); (try clear hb2); (try clear hk); (try clear hi)))
  go_ret2
  exact ⟨_, er_, by first | exact Kd.R_nil _ _ _ _ _ | exact Kd.N_nil _ _ _ _ _ | exact Kd.V_nil _ _ _ _ _ | exact Kd.Q_nil _ _ _ _ _ | exact Kd.S_nil _ _ _ _ _, bl1_ HB GE141⟩
end Go.Proofs.Ytlalpooiegganaa.PG
end

section
namespace Go.Proofs.Ytlalpooiegganaa.PG
open Go.RowKit Go.Proofs.YtlalpooiegganaaW.PrintWords Go.Proofs.YtlalpooiegganaaW.PrintLast Go.Proofs.YtlalpooiegganaaW.PrintMore
attribute [local go_sem] max2_int min2_int max_two min_two max_three min_three max_four min_four   
set_option linter.unusedVariables false
set_option linter.unusedSimpArgs false
open Go.Proofs.Ytlalpooiegganaa.Ext Go.Proofs.Ytlalpooiegganaa.PP Go.Proofs.Ytlalpooiegganaa.ExtF Go.Proofs.Ytlalpooiegganaa.ExtM
mutual
def pdu_AnswerBytes.j0 : Nat → Bool → Int → Int → Int → List Int → Int → Int → Int → List Int → Int → Option (List Int × Int)
 | 0, _, _, _, _, _, _, _, _, _, _ => none
 | k + 1, x15, x215000, x215001, x215002, x215003, x215004, x215005, x215006, x216000, x216001 => if x15 = true then (some (([] : List Int), 1)) else (if x216001 = 0 then ((some (([(x215000) % 256] : List Int) : List Int)).bind fun y221 => (if x215000 = 1 then (pdu_AnswerBytes.j1 k y221 x215000 (x215000 == 1) x215000 x215001 x215002 x215003 x215004 x215005 x215006 x216000 x216001) else (pdu_AnswerBytes.j1 k y221 x215000 (x215000 == 2) x215000 x215001 x215002 x215003 x215004 x215005 x215006 x216000 x216001))) else (some ((([Go.bits .or .u8 ((x215000) % 256) 128, (x216001) % 256] : List Int)), 0)))
def pdu_AnswerBytes.j1 : Nat → List Int → Int → Bool → Int → Int → Int → List Int → Int → Int → Int → List Int → Int → Option (List Int × Int)
 | 0, _, _, _, _, _, _, _, _, _, _, _, _ => none
 | k + 1, x6, x32, x33, x215000, x215001, x215002, x215003, x215004, x215005, x215006, x216000, x216001 => if x33 = true then ((pdu_packed.f k x216000).bind fun t224 => ((pdu_counted.f x6 t224).bind fun t227 => (some (t227, 0)))) else (if x32 = 3 then (pdu_AnswerBytes.j2 k x6 x32 (x32 == 3) x215000 x215001 x215002 x215003 x215004 x215005 x215006 x216000 x216001) else (if x32 = 4 then (pdu_AnswerBytes.j2 k x6 x32 (x32 == 4) x215000 x215001 x215002 x215003 x215004 x215005 x215006 x216000 x216001) else (pdu_AnswerBytes.j2 k x6 x32 (x32 == 23) x215000 x215001 x215002 x215003 x215004 x215005 x215006 x216000 x216001)))
def pdu_AnswerBytes.j2 : Nat → List Int → Int → Bool → Int → Int → Int → List Int → Int → Int → Int → List Int → Int → Option (List Int × Int)
 | 0, _, _, _, _, _, _, _, _, _, _, _, _ => none
 | k + 1, x6, x32, x41, x215000, x215001, x215002, x215003, x215004, x215005, x215006, x216000, x216001 => if x41 = true then ((pdu_lay.f ([] : List Int) x216000).bind fun t230 => ((pdu_counted.f x6 t230).bind fun t233 => (some (t233, 0)))) else (if x32 = 15 then (pdu_AnswerBytes.j3 k x6 (x32 == 15) x215000 x215001 x215002 x215003 x215004 x215005 x215006) else (pdu_AnswerBytes.j3 k x6 (x32 == 16) x215000 x215001 x215002 x215003 x215004 x215005 x215006))
def pdu_AnswerBytes.j3 : Nat → List Int → Bool → Int → Int → Int → List Int → Int → Int → Int → Option (List Int × Int)
 | 0, _, _, _, _, _, _, _, _, _ => none
 | k + 1, x6, x50, x215000, x215001, x215002, x215003, x215004, x215005, x215006 => if x50 = true then ((pdu_lay.f x6 (([x215001, x215002] : List Int))).bind fun t239 => (some (t239, 0))) else ((pdu_Bytes.f k x215000 x215001 x215002 x215003 x215004 x215005 x215006).bind fun bt242 => (some (bt242.1, bt242.2)))
end
def pdu_AnswerBytes.f (k : Nat) (a0_0 : Int) (a0_1 : Int) (a0_2 : Int) (l0_3 : List Int) (a0_4 : Int) (a0_5 : Int) (a0_6 : Int) (l1_0 : List Int) (a1_1 : Int) : Option (List Int × Int) := (pdu_Check.f a0_0 a0_1 a0_2 l0_3 a0_4 a0_5 a0_6).bind fun t216 => (if t216 = 0 then ((pdu_answer.f k a0_0 a0_1 a0_2 l0_3 a0_4 a0_5 a0_6 l1_0 a1_1).bind fun t217 => (pdu_AnswerBytes.j0 k (!t217) a0_0 a0_1 a0_2 l0_3 a0_4 a0_5 a0_6 l1_0 a1_1)) else (pdu_AnswerBytes.j0 k true a0_0 a0_1 a0_2 l0_3 a0_4 a0_5 a0_6 l1_0 a1_1))
theorem pdu_AnswerBytes.mono_l : ∀ k, (∀ y0 y1 y2 y3 y4 y5 y6 y7 y8 y9, LeO (pdu_AnswerBytes.j0 k y0 y1 y2 y3 y4 y5 y6 y7 y8 y9) (pdu_AnswerBytes.j0 (k + 1) y0 y1 y2 y3 y4 y5 y6 y7 y8 y9)) ∧ (∀ y0 y1 y2 y3 y4 y5 y6 y7 y8 y9 y10 y11, LeO (pdu_AnswerBytes.j1 k y0 y1 y2 y3 y4 y5 y6 y7 y8 y9 y10 y11) (pdu_AnswerBytes.j1 (k + 1) y0 y1 y2 y3 y4 y5 y6 y7 y8 y9 y10 y11)) ∧ (∀ y0 y1 y2 y3 y4 y5 y6 y7 y8 y9 y10 y11, LeO (pdu_AnswerBytes.j2 k y0 y1 y2 y3 y4 y5 y6 y7 y8 y9 y10 y11) (pdu_AnswerBytes.j2 (k + 1) y0 y1 y2 y3 y4 y5 y6 y7 y8 y9 y10 y11)) ∧ (∀ y0 y1 y2 y3 y4 y5 y6 y7 y8, LeO (pdu_AnswerBytes.j3 k y0 y1 y2 y3 y4 y5 y6 y7 y8) (pdu_AnswerBytes.j3 (k + 1) y0 y1 y2 y3 y4 y5 y6 y7 y8))
 | 0 => ⟨fun _ _ _ _ _ _ _ _ _ _ r h => by simp [pdu_AnswerBytes.j0] at h, fun _ _ _ _ _ _ _ _ _ _ _ _ r h => by simp [pdu_AnswerBytes.j1] at h, fun _ _ _ _ _ _ _ _ _ _ _ _ r h => by simp [pdu_AnswerBytes.j2] at h, fun _ _ _ _ _ _ _ _ _ r h => by simp [pdu_AnswerBytes.j3] at h⟩
 | k + 1 => by
  obtain ⟨ih0, ih1, ih2, ih3⟩ := pdu_AnswerBytes.mono_l k
  refine ⟨?_, ?_, ?_, ?_⟩
  ·intro y0 y1 y2 y3 y4 y5 y6 y7 y8 y9
   unfold pdu_AnswerBytes.j0
   repeat' first
   | (with_reducible exact ih0 _ _ _ _ _ _ _ _ _ _)
   | (with_reducible exact ih1 _ _ _ _ _ _ _ _ _ _ _ _)
   | (with_reducible exact ih2 _ _ _ _ _ _ _ _ _ _ _ _)
   | (with_reducible exact ih3 _ _ _ _ _ _ _ _ _)
   | (with_reducible exact pdu_Bytes.mono _ _ _ _ _ _ _ _)
   | (with_reducible exact pdu_answer.mono _ _ _ _ _ _ _ _ _ _)
   | (with_reducible exact pdu_packed.mono _ _)
   | (with_reducible exact LeO.refl _)
   | (with_reducible exact LeO.none _)
   | (with_reducible refine LeO.ite ?_ ?_)
   | (with_reducible refine LeO.bind ?_ (fun _ => ?_))
   | exact ih0 _ _ _ _ _ _ _ _ _ _
   | exact ih1 _ _ _ _ _ _ _ _ _ _ _ _
   | exact ih2 _ _ _ _ _ _ _ _ _ _ _ _
   | exact ih3 _ _ _ _ _ _ _ _ _
   | exact pdu_Bytes.mono _ _ _ _ _ _ _ _
   | exact pdu_answer.mono _ _ _ _ _ _ _ _ _ _
   | exact pdu_packed.mono _ _
   | exact LeO.none _
   | refine LeO.ite ?_ ?_
   | refine LeO.bind ?_ (fun _ => ?_)
  ·intro y0 y1 y2 y3 y4 y5 y6 y7 y8 y9 y10 y11
   unfold pdu_AnswerBytes.j1
   repeat' first
   | (with_reducible exact ih0 _ _ _ _ _ _ _ _ _ _)
   | (with_reducible exact ih1 _ _ _ _ _ _ _ _ _ _ _ _)
   | (with_reducible exact ih2 _ _ _ _ _ _ _ _ _ _ _ _)
   | (with_reducible exact ih3 _ _ _ _ _ _ _ _ _)
   | (with_reducible exact pdu_Bytes.mono _ _ _ _ _ _ _ _)
   | (with_reducible exact pdu_answer.mono _ _ _ _ _ _ _ _ _ _)
   | (with_reducible exact pdu_packed.mono _ _)
   | (with_reducible exact LeO.refl _)
   | (with_reducible exact LeO.none _)
   | (with_reducible refine LeO.ite ?_ ?_)
   | (with_reducible refine LeO.bind ?_ (fun _ => ?_))
   | exact ih0 _ _ _ _ _ _ _ _ _ _
   | exact ih1 _ _ _ _ _ _ _ _ _ _ _ _
   | exact ih2 _ _ _ _ _ _ _ _ _ _ _ _
   | exact ih3 _ _ _ _ _ _ _ _ _
   | exact pdu_Bytes.mono _ _ _ _ _ _ _ _
   | exact pdu_answer.mono _ _ _ _ _ _ _ _ _ _
   | exact pdu_packed.mono _ _
   | exact LeO.none _
   | refine LeO.ite ?_ ?_
   | refine LeO.bind ?_ (fun _ => ?_)
  ·intro y0 y1 y2 y3 y4 y5 y6 y7 y8 y9 y10 y11
   unfold pdu_AnswerBytes.j2
   repeat' first
   | (with_reducible exact ih0 _ _ _ _ _ _ _ _ _ _)
   | (with_reducible exact ih1 _ _ _ _ _ _ _ _ _ _ _ _)
   | (with_reducible exact ih2 _ _ _ _ _ _ _ _ _ _ _ _)
   | (with_reducible exact ih3 _ _ _ _ _ _ _ _ _)
   | (with_reducible exact pdu_Bytes.mono _ _ _ _ _ _ _ _)
   | (with_reducible exact pdu_answer.mono _ _ _ _ _ _ _ _ _ _)
   | (with_reducible exact pdu_packed.mono _ _)
   | (with_reducible exact LeO.refl _)
   | (with_reducible exact LeO.none _)
   | (with_reducible refine LeO.ite ?_ ?_)
   | (with_reducible refine LeO.bind ?_ (fun _ => ?_))
   | exact ih0 _ _ _ _ _ _ _ _ _ _
   | exact ih1 _ _ _ _ _ _ _ _ _ _ _ _
   | exact ih2 _ _ _ _ _ _ _ _ _ _ _ _
   | exact ih3 _ _ _ _ _ _ _ _ _
   | exact pdu_Bytes.mono _ _ _ _ _ _ _ _
   | exact pdu_answer.mono _ _ _ _ _ _ _ _ _ _
   | exact pdu_packed.mono _ _
   | exact LeO.none _
   | refine LeO.ite ?_ ?_
   | refine LeO.bind ?_ (fun _ => ?_)
  ·intro y0 y1 y2 y3 y4 y5 y6 y7 y8
   unfold pdu_AnswerBytes.j3
   repeat' first
   | (with_reducible exact ih0 _ _ _ _ _ _ _ _ _ _)
   | (with_reducible exact ih1 _ _ _ _ _ _ _ _ _ _ _ _)
   | (with_reducible exact ih2 _ _ _ _ _ _ _ _ _ _ _ _)
   | (with_reducible exact ih3 _ _ _ _ _ _ _ _ _)
   | (with_reducible exact pdu_Bytes.mono _ _ _ _ _ _ _ _)
   | (with_reducible exact pdu_answer.mono _ _ _ _ _ _ _ _ _ _)
   | (with_reducible exact pdu_packed.mono _ _)
   | (with_reducible exact LeO.refl _)
   | (with_reducible exact LeO.none _)
   | (with_reducible refine LeO.ite ?_ ?_)
   | (with_reducible refine LeO.bind ?_ (fun _ => ?_))
   | exact ih0 _ _ _ _ _ _ _ _ _ _
   | exact ih1 _ _ _ _ _ _ _ _ _ _ _ _
   | exact ih2 _ _ _ _ _ _ _ _ _ _ _ _
   | exact ih3 _ _ _ _ _ _ _ _ _
   | exact pdu_Bytes.mono _ _ _ _ _ _ _ _
   | exact pdu_answer.mono _ _ _ _ _ _ _ _ _ _
   | exact pdu_packed.mono _ _
   | exact LeO.none _
   | refine LeO.ite ?_ ?_
   | refine LeO.bind ?_ (fun _ => ?_)
theorem pdu_AnswerBytes.mono : ∀ a0 a1 a2 a3 a4 a5 a6 a7 a8 k, LeO (pdu_AnswerBytes.f k a0 a1 a2 a3 a4 a5 a6 a7 a8) (pdu_AnswerBytes.f (k + 1) a0 a1 a2 a3 a4 a5 a6 a7 a8) := by
 intro a0 a1 a2 a3 a4 a5 a6 a7 a8 k
 obtain ⟨ih0, ih1, ih2, ih3⟩ := pdu_AnswerBytes.mono_l k
 unfold pdu_AnswerBytes.f
 repeat' first
  | (with_reducible exact ih0 _ _ _ _ _ _ _ _ _ _)
  | (with_reducible exact ih1 _ _ _ _ _ _ _ _ _ _ _ _)
  | (with_reducible exact ih2 _ _ _ _ _ _ _ _ _ _ _ _)
  | (with_reducible exact ih3 _ _ _ _ _ _ _ _ _)
  | (with_reducible exact pdu_Bytes.mono _ _ _ _ _ _ _ _)
  | (with_reducible exact pdu_answer.mono _ _ _ _ _ _ _ _ _ _)
  | (with_reducible exact pdu_packed.mono _ _)
  | (with_reducible exact LeO.refl _)
  | (with_reducible exact LeO.none _)
  | (with_reducible refine LeO.ite ?_ ?_)
  | (with_reducible refine LeO.bind ?_ (fun _ => ?_))
  | exact ih0 _ _ _ _ _ _ _ _ _ _
  | exact ih1 _ _ _ _ _ _ _ _ _ _ _ _
  | exact ih2 _ _ _ _ _ _ _ _ _ _ _ _
  | exact ih3 _ _ _ _ _ _ _ _ _
  | exact pdu_Bytes.mono _ _ _ _ _ _ _ _
  | exact pdu_answer.mono _ _ _ _ _ _ _ _ _ _
  | exact pdu_packed.mono _ _
  | exact LeO.none _
  | refine LeO.ite ?_ ?_
  | refine LeO.bind ?_ (fun _ => ?_)
set_option maxHeartbeats 8000000 in
set_option maxRecDepth 100000 in
theorem pdu_AnswerBytes.calls (k : Nat) (a0_0 : Int) (a0_1 : Int) (a0_2 : Int) (A0_3 : Option Addr) (c0_3 : Nat) (l0_3 : List Int) (a0_4 : Int) (a0_5 : Int) (a0_6 : Int) (A1_0 : Option Addr) (c1_0 : Nat) (l1_0 : List Int) (a1_1 : Int) (r1 : List Int) (r2 : Int) (w : World) (hr0_3 : Kd.C (Kd.int .i64) w A0_3 l0_3.length l0_3) (hc0_3 : l0_3.length ≤ c0_3) (hr1_0 : Kd.C (Kd.int .i64) w A1_0 l1_0.length l1_0) (hc1_0 : l1_0.length ≤ c1_0) (h : pdu_AnswerBytes.f k a0_0 a0_1 a0_2 l0_3 a0_4 a0_5 a0_6 l1_0 a1_1 = some (r1, r2)) :
 Calls Try.prog 50 #[.agg #[.int .i64 a0_0, .int .i64 a0_1, .int .i64 a0_2, .slice A0_3 l0_3.length c0_3, .int .i64 a0_4, .int .i64 a0_5, .int .i64 a0_6], .agg #[.slice A1_0 l1_0.length c1_0, .int .i64 a1_1]] w fun e w' => ∃ v0_ : Value, e = .returned (.tuple #[v0_, .int .i64 r2]) ∧ Kd.R (Kd.int .u8) 5 w' w.heap.size (fun _ => True) v0_ r1 ∧ Below w.heap.size w w' := by
 have hu31 := Try.underlying31
 have hu46 := Try.underlying46
 have HR0_3 := Aside0.mk hr0_3
 have HC0_3 := Aside0.mk hc0_3
 clear hr0_3 hc0_3
 have HR1_0 := Aside0.mk hr1_0
 have HC1_0 := Aside0.mk hc1_0
 clear hr1_0 hc1_0
 have HB := Aside0.mk (Below.refl w.heap.size w)
 have H : ((pdu_Check.f a0_0 a0_1 a0_2 l0_3 a0_4 a0_5 a0_6).bind fun t216 => (if t216 = 0 then ((pdu_answer.f k a0_0 a0_1 a0_2 l0_3 a0_4 a0_5 a0_6 l1_0 a1_1).bind fun t217 => (pdu_AnswerBytes.j0 k (!t217) a0_0 a0_1 a0_2 l0_3 a0_4 a0_5 a0_6 l1_0 a1_1)) else (pdu_AnswerBytes.j0 k true a0_0 a0_1 a0_2 l0_3 a0_4 a0_5 a0_6 l1_0 a1_1))) = some (r1, r2) := h
 clear h
 have HC3 := Aside0.mk H
 clear H
 go_enter Try.func50, Try.ntmps50
 go_upto_region 1 with (first | ((with_reducible refine gate_dst (N := 2) rfl ?_); refine bx_ (N := 2) (cs := #[.int .i64 a0_0, .int .i64 a0_1, .int .i64 a0_2, .slice A0_3 l0_3.length c0_3, .int .i64 a0_4, .int .i64 a0_5, .int .i64 a0_6]) (t := 31) ?_; intro gb214 hg w4 hbox hb; have n0_ := Aside0.mk (below_step (bl0_ HB) hb); have n1_ := Aside0.mk (hbox); have n2_ := Aside0.mk ((by rw [hg]; exact (below_size (bl0_ HB)) : w.heap.size ≤ gb214)); have n3_ := Aside0.mk ((by rw [hg]; exact (below_size (bl0_ HB)) : w.heap.size ≤ gb214)); clear HB; have HB := n0_; have BK214 := n1_; have GW214 := n2_; have GE214 := n3_; clear n0_ n1_ n2_ n3_; clear hb hbox hg) | ((with_reducible refine gate_dst (N := 3) rfl ?_); refine bx_ (N := 3) (cs := #[.slice A1_0 l1_0.length c1_0, .int .i64 a1_1]) (t := 46) ?_; intro gb215 hg w5 hbox hb; have n0_ := Aside0.mk (blk_below (g := gb214) (bk_ BK214) hb); have n1_ := Aside0.mk (below_step (bl1_ HB GE214) hb); have n2_ := Aside0.mk (hbox); have n3_ := Aside0.mk ((by rw [hg]; exact (below_size (bl1_ HB GE214)) : w.heap.size ≤ gb215)); have n4_ := Aside0.mk ((by rw [hg]; exact (below_size (bl1_ HB GE214)) : w.heap.size ≤ gb215)); have n5_ := Aside0.mk ((by rw [hg]; exact Nat.ne_of_lt (blk_lt (g := gb214) (bk_ BK214)) : gb214 ≠ gb215)); have n6_ := Aside0.mk ((by rw [hg]; exact Nat.ne_of_gt (blk_lt (g := gb214) (bk_ BK214)) : gb215 ≠ gb214)); clear BK214; clear HB; have BK214 := n0_; have HB := n1_; have BK215 := n2_; have GW215 := n3_; have GE215 := n4_; have NB214_215 := n5_; have NB215_214 := n6_; clear n0_ n1_ n2_ n3_ n4_ n5_ n6_; clear hb hbox hg))
 (try simp only [Act.put, List.setIfInBounds_toArray, List.set_cons_zero, List.set_cons_succ])
 go_cut [15] (fun v15 wc => ∃ (kq : Nat) (x15_2 : Bool), v15 = .bool x15_2 ∧ Aside0 (pdu_AnswerBytes.j0 kq x15_2 a0_0 a0_1 a0_2 l0_3 a0_4 a0_5 a0_6 l1_0 a1_1 = some (r1, r2)) ∧ Aside0 (kq ≤ k) ∧ Aside0 (wc.heap[gb214]? = some (.cells #[.int .i64 a0_0, .int .i64 a0_1, .int .i64 a0_2, (.slice A0_3 l0_3.length c0_3), .int .i64 a0_4, .int .i64 a0_5, .int .i64 a0_6] 31 (0, 0))) ∧ Aside0 (wc.heap[gb215]? = some (.cells #[(.slice A1_0 l1_0.length c1_0), .int .i64 a1_1] 46 (0, 0))) ∧ Aside0 (Below w.heap.size w wc))
 case first =>
  have H := HC3.out
  clear HC3
  replace H := Option.bind_eq_some_iff.mp H
  obtain ⟨t216, A60, H⟩ := H
  replace H : (if t216 = 0 then ((pdu_answer.f k a0_0 a0_1 a0_2 l0_3 a0_4 a0_5 a0_6 l1_0 a1_1).bind fun t217 => (pdu_AnswerBytes.j0 k (!t217) a0_0 a0_1 a0_2 l0_3 a0_4 a0_5 a0_6 l1_0 a1_1)) else (pdu_AnswerBytes.j0 k true a0_0 a0_1 a0_2 l0_3 a0_4 a0_5 a0_6 l1_0 a1_1)) = some (r1, r2) := H
  have A6 := Aside0.mk A60
  clear A60
  by_cases c7 : t216 = 0
  ·rw [if_pos c7] at H
   have c7b0 : (t216 == 0) = true := beq_iff_eq.mpr c7
   have c7b1 : (t216 != 0) = false := bne_eq_false_iff_eq.mpr c7
   clear c7
   (first | rw [c7b0] | (simp only [i64_w, i32_w]; rw [c7b0]) | skip)
   replace H := Option.bind_eq_some_iff.mp H
   obtain ⟨t217, A80, H⟩ := H
   replace H : (pdu_AnswerBytes.j0 k (!t217) a0_0 a0_1 a0_2 l0_3 a0_4 a0_5 a0_6 l1_0 a1_1) = some (r1, r2) := H
   have A8 := Aside0.mk A80
   clear A80
   have H' := Aside0.mk H
   clear H
   have hnb9 := NB214_215.out
   have hnc9 := NB215_214.out
   refine cz7_ BK214.out ?_; intro hcz10_0 hcz10_1 hcz10_2 hcz10_3 hcz10_4 hcz10_5 hcz10_6 hfz10_0 hfz10_1 hfz10_2 hfz10_3 hfz10_4 hfz10_5 hfz10_6
   go_wp2_with (first | ((with_reducible refine gate_callee (f := 29) rfl ?_); refine goesL_ (some 8) rfl rfl Try.func29 (by kernel_rfl) rfl #[.agg #[.int .i64 a0_0, .int .i64 a0_1, .int .i64 a0_2, .slice A0_3 l0_3.length c0_3, .int .i64 a0_4, .int .i64 a0_5, .int .i64 a0_6]] rfl ar_ ?_; (with_reducible refine (pdu_Check.calls a0_0 a0_1 a0_2 _ _ l0_3 a0_4 a0_5 a0_6 t216 _ ?side1 ?side2 A6.out).mono ?_); (case side1 => exact sc_ (Kd.C_below HR0_3.out HB.out)); (case side2 => exact HC0_3.out); rintro e w11 ⟨rfl, hb⟩; refine ⟨_, rfl, ?_⟩; have n0_ := Aside0.mk (blk_below (g := gb214) (bk_ BK214) hb); have n1_ := Aside0.mk (blk_below (g := gb215) (bk_ BK215) hb); have n2_ := Aside0.mk (below_step (bl2_ HB GE214 GE215) hb); clear BK214; clear BK215; clear HB; have BK214 := n0_; have BK215 := n1_; have HB := n2_; clear n0_ n1_ n2_; (try clear hb); (try clear hb2); (try clear hk); (try clear hi); refine cz7_ BK214.out ?_; intro hcz12_0 hcz12_1 hcz12_2 hcz12_3 hcz12_4 hcz12_5 hcz12_6 hfz12_0 hfz12_1 hfz12_2 hfz12_3 hfz12_4 hfz12_5 hfz12_6; refine cz2_ BK215.out ?_; intro hcz13_0 hcz13_1 hfz13_0 hfz13_1) | (go_at_call 60; (with_reducible refine (pdu_answer.calls k a0_0 a0_1 a0_2 _ _ l0_3 a0_4 a0_5 a0_6 _ _ l1_0 a1_1 t217 _ ?side1 ?side2 ?side3 ?side4 A8.out).mono ?_); (case side1 => exact sc_ (Kd.C_below HR0_3.out HB.out)); (case side2 => exact HC0_3.out); (case side3 => exact sc_ (Kd.C_below HR1_0.out HB.out)); (case side4 => exact HC1_0.out); rintro e w14 ⟨rfl, hb⟩; have n0_ := Aside0.mk (blk_below (g := gb214) (bk_ BK214) hb); have n1_ := Aside0.mk (blk_below (g := gb215) (bk_ BK215) hb); have n2_ := Aside0.mk (below_step (bl2_ HB GE214 GE215) hb); clear BK214; clear BK215; clear HB; have BK214 := n0_; have BK215 := n1_; have HB := n2_; clear n0_ n1_ n2_; (try clear hb); (try clear hb2); (try clear hk); (try clear hi)))
   go_meet
   case rel => exact ⟨_, (!t217), (by first | rfl | (simp; done) | (simp [*]; done)), H', ⟨by first | omega | exact Nat.le_refl _⟩, ⟨bk_ BK214⟩, ⟨bk_ BK215⟩, ⟨bl2_ HB GE214 GE215⟩⟩
  ·rw [if_neg c7] at H
   have c7b0 : (t216 == 0) = false := beq_eq_false_iff_ne.mpr c7
   have c7b1 : (t216 != 0) = true := bne_iff_ne.mpr c7
   (first | rw [c7b0] | (simp only [i64_w, i32_w]; rw [c7b0]) | skip)
   have H' := Aside0.mk H
   clear H
   have hnb15 := NB214_215.out
   have hnc15 := NB215_214.out
   refine cz7_ BK214.out ?_; intro hcz16_0 hcz16_1 hcz16_2 hcz16_3 hcz16_4 hcz16_5 hcz16_6 hfz16_0 hfz16_1 hfz16_2 hfz16_3 hfz16_4 hfz16_5 hfz16_6
   go_wp2_with (first | ((with_reducible refine gate_callee (f := 29) rfl ?_); refine goesL_ (some 8) rfl rfl Try.func29 (by kernel_rfl) rfl #[.agg #[.int .i64 a0_0, .int .i64 a0_1, .int .i64 a0_2, .slice A0_3 l0_3.length c0_3, .int .i64 a0_4, .int .i64 a0_5, .int .i64 a0_6]] rfl ar_ ?_; (with_reducible refine (pdu_Check.calls a0_0 a0_1 a0_2 _ _ l0_3 a0_4 a0_5 a0_6 t216 _ ?side1 ?side2 A6.out).mono ?_); (case side1 => exact sc_ (Kd.C_below HR0_3.out HB.out)); (case side2 => exact HC0_3.out); rintro e w17 ⟨rfl, hb⟩; refine ⟨_, rfl, ?_⟩; have n0_ := Aside0.mk (blk_below (g := gb214) (bk_ BK214) hb); have n1_ := Aside0.mk (blk_below (g := gb215) (bk_ BK215) hb); have n2_ := Aside0.mk (below_step (bl2_ HB GE214 GE215) hb); clear BK214; clear BK215; clear HB; have BK214 := n0_; have BK215 := n1_; have HB := n2_; clear n0_ n1_ n2_; (try clear hb); (try clear hb2); (try clear hk); (try clear hi)))
   go_meet
   case rel => exact ⟨_, (true), (by first | rfl | (simp; done) | (simp [*]; done)), H', ⟨by first | omega | exact Nat.le_refl _⟩, ⟨bk_ BK214⟩, ⟨bk_ BK215⟩, ⟨bl2_ HB GE214 GE215⟩⟩
 case rest =>
  clear HC3
  try clear c1
  try clear c2
  try clear p2
  try clear c5
  try clear c7
  try clear c7b0
  try clear c7b1
  try clear c9
  try clear c15
  try clear hcz10_0 hcz10_1 hcz10_2 hcz10_3 hcz10_4 hcz10_5 hcz10_6
  try clear hcz12_0 hcz12_1 hcz12_2 hcz12_3 hcz12_4 hcz12_5 hcz12_6
  try clear hcz13_0 hcz13_1
  try clear hcz16_0 hcz16_1 hcz16_2 hcz16_3 hcz16_4 hcz16_5 hcz16_6
  try clear hfz10_0 hfz10_1 hfz10_2 hfz10_3 hfz10_4 hfz10_5 hfz10_6
  try clear hfz12_0 hfz12_1 hfz12_2 hfz12_3 hfz12_4 hfz12_5 hfz12_6
  try clear hfz13_0 hfz13_1
  try clear hfz16_0 hfz16_1 hfz16_2 hfz16_3 hfz16_4 hfz16_5 hfz16_6
  obtain ⟨kq, x15_2, rfl, HA, HJ2, BK214, BK215, HB⟩ := hcut
  cases kq with
  | zero => exact absurd HA.out (by simp [pdu_AnswerBytes.j0])
  | succ kj2 =>
   have H := HA.out
   clear HA
   simp only [pdu_AnswerBytes.j0] at H
   by_cases c18 : x15_2 = true
   ·subst c18
    have H1 : (some (([] : List Int), 1)) = some (r1, r2) := by rw [if_pos rfl] at H; exact H
    clear H
    have H := H1
    clear H1
    simp only [Option.some.injEq, Prod.mk.injEq] at H
    obtain ⟨rfl, rfl⟩ := H
    go_wp2
    go_ret2
    exact ⟨_, er_, by first | exact Kd.R_nil _ _ _ _ _ | exact Kd.N_nil _ _ _ _ _ | exact Kd.V_nil _ _ _ _ _ | exact Kd.Q_nil _ _ _ _ _ | exact Kd.S_nil _ _ _ _ _, bl2_ HB GE214 GE215⟩
   ·replace c18 := Bool.eq_false_iff.mpr c18
    subst c18
    have H1 : (if a1_1 = 0 then ((some (([(a0_0) % 256] : List Int) : List Int)).bind fun y221 => (if a0_0 = 1 then (pdu_AnswerBytes.j1 kj2 y221 a0_0 (a0_0 == 1) a0_0 a0_1 a0_2 l0_3 a0_4 a0_5 a0_6 l1_0 a1_1) else (pdu_AnswerBytes.j1 kj2 y221 a0_0 (a0_0 == 2) a0_0 a0_1 a0_2 l0_3 a0_4 a0_5 a0_6 l1_0 a1_1))) else (some ((([Go.bits .or .u8 ((a0_0) % 256) 128, (a1_1) % 256] : List Int)), 0))) = some (r1, r2) := by rw [if_neg (show ¬ (false = true) by decide)] at H; exact H
    clear H
    have H := H1
    clear H1
    by_cases c19 : a1_1 = 0
    ·rw [if_pos c19] at H
     have c19b0 : (a1_1 == 0) = true := beq_iff_eq.mpr c19
     have c19b1 : (a1_1 != 0) = false := bne_eq_false_iff_eq.mpr c19
     clear c19
     obtain ⟨y221, hy221⟩ : ∃ y_ : List Int, y_ = (([(a0_0) % 256] : List Int)) := ⟨_, rfl⟩
     replace H : (if a0_0 = 1 then (pdu_AnswerBytes.j1 kj2 y221 a0_0 (a0_0 == 1) a0_0 a0_1 a0_2 l0_3 a0_4 a0_5 a0_6 l1_0 a1_1) else (pdu_AnswerBytes.j1 kj2 y221 a0_0 (a0_0 == 2) a0_0 a0_1 a0_2 l0_3 a0_4 a0_5 a0_6 l1_0 a1_1)) = some (r1, r2) := by first | (rw [hy221]; with_reducible exact H) | (have H2_ := (Option.bind_some _ _).symm.trans H; rw [hy221]; with_reducible exact H2_) | (have H2_ := (Option.bind_some _ _).symm.trans H; with_reducible exact H2_) | with_reducible exact H | (rw [hy221]; exact H) | exact H
     have Ny221 := Aside0.mk hy221
     clear hy221
     have HC20 := Aside0.mk H
     clear H
     have hnb21 := NB215_214.out
     have hnc21 := NB214_215.out
     refine cz2_ BK215.out ?_; intro hcz22_0 hcz22_1 hfz22_0 hfz22_1
     refine cz7_ BK214.out ?_; intro hcz23_0 hcz23_1 hcz23_2 hcz23_3 hcz23_4 hcz23_5 hcz23_6 hfz23_0 hfz23_1 hfz23_2 hfz23_3 hfz23_4 hfz23_5 hfz23_6
     go_upto_if 33 with (first | ((with_reducible refine gate_dst (N := 30) rfl ?_); refine Kd.R_lit (Kd.int .u8) _ 5 ?hg (N := 30) ?hd (xs := ([(a0_0) % 256] : List Int)) (inner := [.int .u8 ((a0_0) % 256)]) (ok := fun _ => True) (okp := fun _ => True) ?hr ?hp (fun _ hk => hk) trivial (Below.refl _ _) (Nat.le_refl _) (by simp) ?_; (case hd => rfl); (case hg => rfl); (case hr => first | (go_simp; done) | (go_simp; rfl)); (case hp => exact (Reps.one (show Kd.M (Kd.int .u8) _ _ _ ((a0_0) % 256) [.int .u8 ((a0_0) % 256)] from rfl) (Reps.none _ _))); intro v222 w24 ho25 hb hg_ hnew_; clear hg_ hnew_; (first | rw [← Ny221.out] at ho25 | (simp only [Int.reduceToNat] at ho25; rw [← Ny221.out] at ho25)); have n0_ := Aside0.mk (Kd.R_lower ho25 (below_size (bl2_ HB GE214 GE215))); have n1_ := Aside0.mk (blk_below (g := gb214) (bk_ BK214) hb); have n2_ := Aside0.mk (blk_below (g := gb215) (bk_ BK215) hb); have n3_ := Aside0.mk (below_step (bl2_ HB GE214 GE215) hb); clear BK214; clear BK215; clear HB; have HO223 := n0_; have BK214 := n1_; have BK215 := n2_; have HB := n3_; clear n0_ n1_ n2_ n3_; clear hb ho25; refine cz7_ BK214.out ?_; intro hcz26_0 hcz26_1 hcz26_2 hcz26_3 hcz26_4 hcz26_5 hcz26_6 hfz26_0 hfz26_1 hfz26_2 hfz26_3 hfz26_4 hfz26_5 hfz26_6))
     (try simp only [Act.put, List.setIfInBounds_toArray, List.set_cons_zero, List.set_cons_succ])
     go_cut [33] (fun v33 wc => ∃ (kq : Nat) (x33_19 : Bool), v33 = .bool x33_19 ∧ Aside0 (pdu_AnswerBytes.j1 kq y221 a0_0 x33_19 a0_0 a0_1 a0_2 l0_3 a0_4 a0_5 a0_6 l1_0 a1_1 = some (r1, r2)) ∧ Aside0 (kq ≤ kj2) ∧ Aside0 (Kd.R (Kd.int .u8) 5 wc w.heap.size (fun _ => True) v222 y221) ∧ Aside0 (wc.heap[gb214]? = some (.cells #[.int .i64 a0_0, .int .i64 a0_1, .int .i64 a0_2, (.slice A0_3 l0_3.length c0_3), .int .i64 a0_4, .int .i64 a0_5, .int .i64 a0_6] 31 (0, 0))) ∧ Aside0 (wc.heap[gb215]? = some (.cells #[(.slice A1_0 l1_0.length c1_0), .int .i64 a1_1] 46 (0, 0))) ∧ Aside0 (Below w.heap.size w wc))
     case first =>
      have H := HC20.out
      clear HC20
      by_cases c27 : a0_0 = 1
      ·rw [if_pos c27] at H
       have c27b0 : (a0_0 == 1) = true := beq_iff_eq.mpr c27
       have c27b1 : (a0_0 != 1) = false := bne_eq_false_iff_eq.mpr c27
       clear c27
       (first | rw [c27b0] | (simp only [i64_w, i32_w]; rw [c27b0]) | skip)
       have H' := Aside0.mk H
       clear H
       go_wp2
       go_meet
       case rel => exact ⟨_, ((a0_0 == 1)), (by first | rfl | (simp; done) | (simp [*]; done)), H', ⟨by have := HJ2.out; first | omega | exact Nat.le_refl _⟩, ⟨kr_ HO223⟩, ⟨bk_ BK214⟩, ⟨bk_ BK215⟩, ⟨bl2_ HB GE214 GE215⟩⟩
      ·rw [if_neg c27] at H
       have c27b0 : (a0_0 == 1) = false := beq_eq_false_iff_ne.mpr c27
       have c27b1 : (a0_0 != 1) = true := bne_iff_ne.mpr c27
       (first | rw [c27b0] | (simp only [i64_w, i32_w]; rw [c27b0]) | skip)
       have H' := Aside0.mk H
       clear H
       go_wp2
       go_meet
       case rel => exact ⟨_, ((a0_0 == 2)), (by first | rfl | (simp; done) | (simp [*]; done)), H', ⟨by have := HJ2.out; first | omega | exact Nat.le_refl _⟩, ⟨kr_ HO223⟩, ⟨bk_ BK214⟩, ⟨bk_ BK215⟩, ⟨bl2_ HB GE214 GE215⟩⟩
     case rest =>
      clear HC20
      try clear c1
      try clear c2
      try clear p2
      try clear c5
      try clear c7
      try clear c7b0
      try clear c7b1
      try clear c9
      try clear c15
      try clear c18
      try clear c19
      try clear c19b0
      try clear c19b1
      try clear c21
      try clear c27
      try clear c27b0
      try clear c27b1
      try clear hcz10_0 hcz10_1 hcz10_2 hcz10_3 hcz10_4 hcz10_5 hcz10_6
      try clear hcz12_0 hcz12_1 hcz12_2 hcz12_3 hcz12_4 hcz12_5 hcz12_6
      try clear hcz13_0 hcz13_1
      try clear hcz16_0 hcz16_1 hcz16_2 hcz16_3 hcz16_4 hcz16_5 hcz16_6
      try clear hcz22_0 hcz22_1
      try clear hcz23_0 hcz23_1 hcz23_2 hcz23_3 hcz23_4 hcz23_5 hcz23_6
      try clear hcz26_0 hcz26_1 hcz26_2 hcz26_3 hcz26_4 hcz26_5 hcz26_6
      try clear hfz10_0 hfz10_1 hfz10_2 hfz10_3 hfz10_4 hfz10_5 hfz10_6
      try clear hfz12_0 hfz12_1 hfz12_2 hfz12_3 hfz12_4 hfz12_5 hfz12_6
      try clear hfz13_0 hfz13_1
      try clear hfz16_0 hfz16_1 hfz16_2 hfz16_3 hfz16_4 hfz16_5 hfz16_6
      try clear hfz22_0 hfz22_1
      try clear hfz23_0 hfz23_1 hfz23_2 hfz23_3 hfz23_4 hfz23_5 hfz23_6
      try clear hfz26_0 hfz26_1 hfz26_2 hfz26_3 hfz26_4 hfz26_5 hfz26_6
      try clear p2
      obtain ⟨kq, x33_19, rfl, HA, HJ19, HO_6, BK214, BK215, HB⟩ := hcut
      cases kq with
      | zero => exact absurd HA.out (by simp [pdu_AnswerBytes.j1])
      | succ kj19 =>
       have H := HA.out
       clear HA
       simp only [pdu_AnswerBytes.j1] at H
       by_cases c28 : x33_19 = true
       ·subst c28
        have H1 : ((pdu_packed.f kj19 l1_0).bind fun t224 => ((pdu_counted.f y221 t224).bind fun t227 => (some (t227, 0)))) = some (r1, r2) := by rw [if_pos rfl] at H; exact H
        clear H
        have H := H1
        clear H1
        replace H := Option.bind_eq_some_iff.mp H
        obtain ⟨t224, A290, H⟩ := H
        replace H : ((pdu_counted.f y221 t224).bind fun t227 => (some (t227, 0))) = some (r1, r2) := H
        have A29 := Aside0.mk A290
        clear A290
        replace H := Option.bind_eq_some_iff.mp H
        obtain ⟨t227, A300, H⟩ := H
        replace H : (some (t227, 0)) = some (r1, r2) := H
        have A30 := Aside0.mk A300
        clear A300
        simp only [Option.some.injEq, Prod.mk.injEq] at H
        obtain ⟨rfl, rfl⟩ := H
        have hnb31 := NB215_214.out
        have hnc31 := NB214_215.out
        refine cz2_ BK215.out ?_; intro hcz32_0 hcz32_1 hfz32_0 hfz32_1
        go_wp2_with (first | ((with_reducible refine gate_callee (f := 62) rfl ?_); refine goesL_ (some 39) rfl rfl Try.func62 (by kernel_rfl) rfl #[.slice A1_0 l1_0.length c1_0] rfl ar_ ?_; (with_reducible refine (pdu_packed.calls kj19 _ _ l1_0 t224 _ ?side1 ?side2 A29.out).mono ?_); (case side1 => exact sc_ (Kd.C_below HR1_0.out HB.out)); (case side2 => exact HC1_0.out); rintro e w33 ⟨v225, rfl, ho0, hb⟩; refine ⟨_, rfl, ?_⟩; have n0_ := Aside0.mk (Kd.R_elder' (kr_ HO_6) (Kd.R_base ho0) hb); have n1_ := Aside0.mk (Kd.R_lower (Kd.R_new' ho0 (Kd.R_lt (kr_ HO_6))) (below_size (bl2_ HB GE214 GE215))); have n2_ := Aside0.mk (blk_below (g := gb214) (bk_ BK214) hb); have n3_ := Aside0.mk (blk_below (g := gb215) (bk_ BK215) hb); have n4_ := Aside0.mk (below_step (bl2_ HB GE214 GE215) hb); clear HO_6; clear BK214; clear BK215; clear HB; have HO_6 := n0_; have HO226 := n1_; have BK214 := n2_; have BK215 := n3_; have HB := n4_; clear n0_ n1_ n2_ n3_ n4_; (try clear hb); (try clear hb2); (try clear hk); (try clear hi); (try clear ho0); obtain ⟨Ao34, co34, eo34⟩ := Kd.R_slice HO_6.out; subst eo34; obtain ⟨Ao35, co35, eo35⟩ := Kd.R_slice HO226.out; subst eo35) | ((with_reducible refine gate_callee (f := 61) rfl ?_); refine goesL_ (some 40) rfl rfl Try.func61 (by kernel_rfl) rfl #[.slice Ao34 y221.length co34, .slice Ao35 t224.length co35] rfl ar_ ?_; (with_reducible refine (pdu_counted.calls (fun k_ => some k_ = (.slice Ao34 y221.length co34 : Value).ownBlock) (.slice Ao34 y221.length co34) y221 _ _ t224 t227 w _ ?side1 ?side2 ?side3 ?side4 A30.out).mono ?_); (case side1 => repeat (first | (with_reducible first | exact HB.out | apply below_alloc | apply pw_below_drewN | apply below_drew1 | refine below_set ?_ GE214.out | refine below_set ?_ GE215.out) | exact HB.out)); (case side2 => exact Kd.R_tight rfl HO_6.out); (case side3 => exact Kd.C_kept_own (HO226.out) (fun k_ hk_ hs_ => (hk_.2) hs_)); (case side4 => exact (Kd.R_reads' HO226.out).2.1); rintro e w36 ⟨v228, rfl, ho0, hb, hkp⟩; refine ⟨_, rfl, ?_⟩; have n0_ := Aside0.mk (blk_kept (bk_ BK214) hkp (fun hs_ => (fun e_ => (Kd.R_ne HO_6.out BK214.out (by decide)) e_) hs_)); have n1_ := Aside0.mk (blk_kept (bk_ BK215) hkp (fun hs_ => (fun e_ => (Kd.R_ne HO_6.out BK215.out (by decide)) e_) hs_)); have n2_ := Aside0.mk (Kd.R_mono (ok' := fun k_ => some k_ ≠ (v228 : Value).ownBlock) (Kd.R_keptB (HO226.out) hkp (fun k_ hk_ hs_ => (hk_.2) hs_)) (fun k_ hk_ => fun e_ => Or.elim (ho0.1 k_ e_.symm) (fun hs_ => hk_.2.1 hs_) (fun hn_ => Nat.not_le.2 hk_.2.2 hn_))); have n3_ := Aside0.mk (Kd.R_mono (ok' := fun k_ => some k_ ≠ (.slice Ao35 t224.length co35 : Value).ownBlock) ho0 (fun k_ hk_ => Or.elim hk_ (fun hs_ => fun e_ => (((HO226.out).1 k_ e_.symm).2) hs_) (fun hn_ => (Kd.fresh' (Kd.R_lt (kr_ HO226)) k_ hn_)))); have n4_ := Aside0.mk (hb); clear BK214; clear BK215; clear HO226; clear HB; clear HO_6; have BK214 := n0_; have BK215 := n1_; have HO226 := n2_; have HO229 := n3_; have HB := n4_; clear n0_ n1_ n2_ n3_ n4_; (try clear hb); (try clear hkp); (try clear ho0)))
        go_ret2
        exact ⟨_, er_, by (with_reducible repeat (first | apply Kd.R_alloc | apply Kd.R_drewN | apply Kd.R_drew)); exact Kd.R_mono HO229.out (fun _ hk => trivial), bl2_ HB GE214 GE215⟩
       ·replace c28 := Bool.eq_false_iff.mpr c28
        subst c28
        have H1 : (if a0_0 = 3 then (pdu_AnswerBytes.j2 kj19 y221 a0_0 (a0_0 == 3) a0_0 a0_1 a0_2 l0_3 a0_4 a0_5 a0_6 l1_0 a1_1) else (if a0_0 = 4 then (pdu_AnswerBytes.j2 kj19 y221 a0_0 (a0_0 == 4) a0_0 a0_1 a0_2 l0_3 a0_4 a0_5 a0_6 l1_0 a1_1) else (pdu_AnswerBytes.j2 kj19 y221 a0_0 (a0_0 == 23) a0_0 a0_1 a0_2 l0_3 a0_4 a0_5 a0_6 l1_0 a1_1))) = some (r1, r2) := by rw [if_neg (show ¬ (false = true) by decide)] at H; exact H
        clear H
        have H := H1
        clear H1
        have HC37 := Aside0.mk H
        clear H
        go_upto_if 41 with (fail)
        go_cut [41] (fun v41 wc => ∃ (kq : Nat) (x41_36 : Bool), v41 = .bool x41_36 ∧ Aside0 (pdu_AnswerBytes.j2 kq y221 a0_0 x41_36 a0_0 a0_1 a0_2 l0_3 a0_4 a0_5 a0_6 l1_0 a1_1 = some (r1, r2)) ∧ Aside0 (kq ≤ kj19) ∧ Aside0 (Kd.R (Kd.int .u8) 5 wc w.heap.size (fun _ => True) v222 y221) ∧ Aside0 (wc.heap[gb214]? = some (.cells #[.int .i64 a0_0, .int .i64 a0_1, .int .i64 a0_2, (.slice A0_3 l0_3.length c0_3), .int .i64 a0_4, .int .i64 a0_5, .int .i64 a0_6] 31 (0, 0))) ∧ Aside0 (wc.heap[gb215]? = some (.cells #[(.slice A1_0 l1_0.length c1_0), .int .i64 a1_1] 46 (0, 0))) ∧ Aside0 (Below w.heap.size w wc))
        case first =>
         have H := HC37.out
         clear HC37
         by_cases c38 : a0_0 = 3
         ·rw [if_pos c38] at H
          have c38b0 : (a0_0 == 3) = true := beq_iff_eq.mpr c38
          have c38b1 : (a0_0 != 3) = false := bne_eq_false_iff_eq.mpr c38
          clear c38
          (first | rw [c38b0] | (simp only [i64_w, i32_w]; rw [c38b0]) | skip)
          have H' := Aside0.mk H
          clear H
          go_wp2
          go_meet
          case rel => exact ⟨_, ((a0_0 == 3)), (by first | rfl | (simp; done) | (simp [*]; done)), H', ⟨by have := HJ2.out; have := HJ19.out; first | omega | exact Nat.le_refl _⟩, ⟨kr_ HO_6⟩, ⟨bk_ BK214⟩, ⟨bk_ BK215⟩, ⟨bl2_ HB GE214 GE215⟩⟩
         ·rw [if_neg c38] at H
          have c38b0 : (a0_0 == 3) = false := beq_eq_false_iff_ne.mpr c38
          have c38b1 : (a0_0 != 3) = true := bne_iff_ne.mpr c38
          (first | rw [c38b0] | (simp only [i64_w, i32_w]; rw [c38b0]) | skip)
          by_cases c39 : a0_0 = 4
          ·rw [if_pos c39] at H
           have c39b0 : (a0_0 == 4) = true := beq_iff_eq.mpr c39
           have c39b1 : (a0_0 != 4) = false := bne_eq_false_iff_eq.mpr c39
           clear c39
           have H' := Aside0.mk H
           clear H
           go_wp2
           go_meet
           case rel => exact ⟨_, ((a0_0 == 4)), (by first | rfl | (simp; done) | (simp [*]; done)), H', ⟨by have := HJ2.out; have := HJ19.out; first | omega | exact Nat.le_refl _⟩, ⟨kr_ HO_6⟩, ⟨bk_ BK214⟩, ⟨bk_ BK215⟩, ⟨bl2_ HB GE214 GE215⟩⟩
          ·rw [if_neg c39] at H
           have c39b0 : (a0_0 == 4) = false := beq_eq_false_iff_ne.mpr c39
           have c39b1 : (a0_0 != 4) = true := bne_iff_ne.mpr c39
           have H' := Aside0.mk H
           clear H
           go_wp2
           go_meet
           case rel => exact ⟨_, ((a0_0 == 23)), (by first | rfl | (simp; done) | (simp [*]; done)), H', ⟨by have := HJ2.out; have := HJ19.out; first | omega | exact Nat.le_refl _⟩, ⟨kr_ HO_6⟩, ⟨bk_ BK214⟩, ⟨bk_ BK215⟩, ⟨bl2_ HB GE214 GE215⟩⟩
        case rest =>
         clear HC37
         try clear c1
         try clear c2
         try clear p2
         try clear c3
         try clear c5
         try clear c6
         try clear c7
         try clear c7b0
         try clear c7b1
         try clear c9
         try clear c15
         try clear c18
         try clear c19
         try clear c19b0
         try clear c19b1
         try clear c21
         try clear c27
         try clear c27b0
         try clear c27b1
         try clear c28
         try clear c29
         try clear c31
         try clear c38
         try clear c38b0
         try clear c38b1
         try clear c39
         try clear c39b0
         try clear c39b1
         try clear hcz10_0 hcz10_1 hcz10_2 hcz10_3 hcz10_4 hcz10_5 hcz10_6
         try clear hcz12_0 hcz12_1 hcz12_2 hcz12_3 hcz12_4 hcz12_5 hcz12_6
         try clear hcz13_0 hcz13_1
         try clear hcz16_0 hcz16_1 hcz16_2 hcz16_3 hcz16_4 hcz16_5 hcz16_6
         try clear hcz22_0 hcz22_1
         try clear hcz23_0 hcz23_1 hcz23_2 hcz23_3 hcz23_4 hcz23_5 hcz23_6
         try clear hcz26_0 hcz26_1 hcz26_2 hcz26_3 hcz26_4 hcz26_5 hcz26_6
         try clear hcz32_0 hcz32_1
         try clear hfz10_0 hfz10_1 hfz10_2 hfz10_3 hfz10_4 hfz10_5 hfz10_6
         try clear hfz12_0 hfz12_1 hfz12_2 hfz12_3 hfz12_4 hfz12_5 hfz12_6
         try clear hfz13_0 hfz13_1
         try clear hfz16_0 hfz16_1 hfz16_2 hfz16_3 hfz16_4 hfz16_5 hfz16_6
         try clear hfz22_0 hfz22_1
         try clear hfz23_0 hfz23_1 hfz23_2 hfz23_3 hfz23_4 hfz23_5 hfz23_6
         try clear hfz26_0 hfz26_1 hfz26_2 hfz26_3 hfz26_4 hfz26_5 hfz26_6
         try clear hfz32_0 hfz32_1
         try clear p2
         obtain ⟨kq, x41_36, rfl, HA, HJ36, HO_6, BK214, BK215, HB⟩ := hcut
         cases kq with
         | zero => exact absurd HA.out (by simp [pdu_AnswerBytes.j2])
         | succ kj36 =>
          have H := HA.out
          clear HA
          simp only [pdu_AnswerBytes.j2] at H
          by_cases c40 : x41_36 = true
          ·subst c40
           have H1 : ((pdu_lay.f ([] : List Int) l1_0).bind fun t230 => ((pdu_counted.f y221 t230).bind fun t233 => (some (t233, 0)))) = some (r1, r2) := by rw [if_pos rfl] at H; exact H
           clear H
           have H := H1
           clear H1
           replace H := Option.bind_eq_some_iff.mp H
           obtain ⟨t230, A410, H⟩ := H
           replace H : ((pdu_counted.f y221 t230).bind fun t233 => (some (t233, 0))) = some (r1, r2) := H
           have A41 := Aside0.mk A410
           clear A410
           replace H := Option.bind_eq_some_iff.mp H
           obtain ⟨t233, A420, H⟩ := H
           replace H : (some (t233, 0)) = some (r1, r2) := H
           have A42 := Aside0.mk A420
           clear A420
           simp only [Option.some.injEq, Prod.mk.injEq] at H
           obtain ⟨rfl, rfl⟩ := H
           have hnb43 := NB215_214.out
           have hnc43 := NB214_215.out
           refine cz2_ BK215.out ?_; intro hcz44_0 hcz44_1 hfz44_0 hfz44_1
           go_wp2_with (first | ((with_reducible refine gate_callee (f := 63) rfl ?_); refine goesL_ (some 48) rfl rfl Try.func63 (by kernel_rfl) rfl #[.slice none 0 0, .slice A1_0 l1_0.length c1_0] rfl ar_ ?_; (refine (pdu_lay.calls _ _ ([] : List Int) _ _ l1_0 t230 _ ?side1 ?side2 ?side3 ?side4 A41.out).mono ?_); (case side1 => exact Kd.C_nil _ _); (case side2 => exact Nat.le_refl _); (case side3 => exact sc_ (Kd.C_below HR1_0.out HB.out)); (case side4 => exact HC1_0.out); rintro e w45 ⟨v231, rfl, ho0, hb⟩; refine ⟨_, rfl, ?_⟩; have n0_ := Aside0.mk (Kd.R_elder' (kr_ HO_6) (Kd.R_base ho0) hb); have n1_ := Aside0.mk (Kd.R_lower (Kd.R_new' ho0 (Kd.R_lt (kr_ HO_6))) (below_size (bl2_ HB GE214 GE215))); have n2_ := Aside0.mk (blk_below (g := gb214) (bk_ BK214) hb); have n3_ := Aside0.mk (blk_below (g := gb215) (bk_ BK215) hb); have n4_ := Aside0.mk (below_step (bl2_ HB GE214 GE215) hb); clear HO_6; clear BK214; clear BK215; clear HB; have HO_6 := n0_; have HO232 := n1_; have BK214 := n2_; have BK215 := n3_; have HB := n4_; clear n0_ n1_ n2_ n3_ n4_; (try clear hb); (try clear hb2); (try clear hk); (try clear hi); (try clear ho0); obtain ⟨Ao46, co46, eo46⟩ := Kd.R_slice HO_6.out; subst eo46; obtain ⟨Ao47, co47, eo47⟩ := Kd.R_slice HO232.out; subst eo47) | ((with_reducible refine gate_callee (f := 61) rfl ?_); refine goesL_ (some 49) rfl rfl Try.func61 (by kernel_rfl) rfl #[.slice Ao46 y221.length co46, .slice Ao47 t230.length co47] rfl ar_ ?_; (with_reducible refine (pdu_counted.calls (fun k_ => some k_ = (.slice Ao46 y221.length co46 : Value).ownBlock) (.slice Ao46 y221.length co46) y221 _ _ t230 t233 w _ ?side1 ?side2 ?side3 ?side4 A42.out).mono ?_); (case side1 => repeat (first | (with_reducible first | exact HB.out | apply below_alloc | apply pw_below_drewN | apply below_drew1 | refine below_set ?_ GE214.out | refine below_set ?_ GE215.out) | exact HB.out)); (case side2 => exact Kd.R_tight rfl HO_6.out); (case side3 => exact Kd.C_kept_own (HO232.out) (fun k_ hk_ hs_ => (hk_.2) hs_)); (case side4 => exact (Kd.R_reads' HO232.out).2.1); rintro e w48 ⟨v234, rfl, ho0, hb, hkp⟩; refine ⟨_, rfl, ?_⟩; have n0_ := Aside0.mk (blk_kept (bk_ BK214) hkp (fun hs_ => (fun e_ => (Kd.R_ne HO_6.out BK214.out (by decide)) e_) hs_)); have n1_ := Aside0.mk (blk_kept (bk_ BK215) hkp (fun hs_ => (fun e_ => (Kd.R_ne HO_6.out BK215.out (by decide)) e_) hs_)); have n2_ := Aside0.mk (Kd.R_mono (ok' := fun k_ => some k_ ≠ (v234 : Value).ownBlock) (Kd.R_keptB (HO232.out) hkp (fun k_ hk_ hs_ => (hk_.2) hs_)) (fun k_ hk_ => fun e_ => Or.elim (ho0.1 k_ e_.symm) (fun hs_ => hk_.2.1 hs_) (fun hn_ => Nat.not_le.2 hk_.2.2 hn_))); have n3_ := Aside0.mk (Kd.R_mono (ok' := fun k_ => some k_ ≠ (.slice Ao47 t230.length co47 : Value).ownBlock) ho0 (fun k_ hk_ => Or.elim hk_ (fun hs_ => fun e_ => (((HO232.out).1 k_ e_.symm).2) hs_) (fun hn_ => (Kd.fresh' (Kd.R_lt (kr_ HO232)) k_ hn_)))); have n4_ := Aside0.mk (hb); clear BK214; clear BK215; clear HO232; clear HB; clear HO_6; have BK214 := n0_; have BK215 := n1_; have HO232 := n2_; have HO235 := n3_; have HB := n4_; clear n0_ n1_ n2_ n3_ n4_; (try clear hb); (try clear hkp); (try clear ho0)))
           go_ret2
           exact ⟨_, er_, by (with_reducible repeat (first | apply Kd.R_alloc | apply Kd.R_drewN | apply Kd.R_drew)); exact Kd.R_mono HO235.out (fun _ hk => trivial), bl2_ HB GE214 GE215⟩
          ·replace c40 := Bool.eq_false_iff.mpr c40
           subst c40
           have H1 : (if a0_0 = 15 then (pdu_AnswerBytes.j3 kj36 y221 (a0_0 == 15) a0_0 a0_1 a0_2 l0_3 a0_4 a0_5 a0_6) else (pdu_AnswerBytes.j3 kj36 y221 (a0_0 == 16) a0_0 a0_1 a0_2 l0_3 a0_4 a0_5 a0_6)) = some (r1, r2) := by rw [if_neg (show ¬ (false = true) by decide)] at H; exact H
           clear H
           have H := H1
           clear H1
           have HC49 := Aside0.mk H
           clear H
           go_upto_if 50 with (fail)
           go_cut [50] (fun v50 wc => ∃ (kq : Nat) (x50_48 : Bool), v50 = .bool x50_48 ∧ Aside0 (pdu_AnswerBytes.j3 kq y221 x50_48 a0_0 a0_1 a0_2 l0_3 a0_4 a0_5 a0_6 = some (r1, r2)) ∧ Aside0 (kq ≤ kj36) ∧ Aside0 (Kd.R (Kd.int .u8) 5 wc w.heap.size (fun _ => True) v222 y221) ∧ Aside0 (wc.heap[gb214]? = some (.cells #[.int .i64 a0_0, .int .i64 a0_1, .int .i64 a0_2, (.slice A0_3 l0_3.length c0_3), .int .i64 a0_4, .int .i64 a0_5, .int .i64 a0_6] 31 (0, 0))) ∧ Aside0 (wc.heap[gb215]? = some (.cells #[(.slice A1_0 l1_0.length c1_0), .int .i64 a1_1] 46 (0, 0))) ∧ Aside0 (Below w.heap.size w wc))
           case first =>
            have H := HC49.out
            clear HC49
            by_cases c50 : a0_0 = 15
            ·rw [if_pos c50] at H
             have c50b0 : (a0_0 == 15) = true := beq_iff_eq.mpr c50
             have c50b1 : (a0_0 != 15) = false := bne_eq_false_iff_eq.mpr c50
             clear c50
             (first | rw [c50b0] | (simp only [i64_w, i32_w]; rw [c50b0]) | skip)
             have H' := Aside0.mk H
             clear H
             go_wp2
             go_meet
             case rel => exact ⟨_, ((a0_0 == 15)), (by first | rfl | (simp; done) | (simp [*]; done)), H', ⟨by have := HJ2.out; have := HJ19.out; have := HJ36.out; first | omega | exact Nat.le_refl _⟩, ⟨kr_ HO_6⟩, ⟨bk_ BK214⟩, ⟨bk_ BK215⟩, ⟨bl2_ HB GE214 GE215⟩⟩
            ·rw [if_neg c50] at H
             have c50b0 : (a0_0 == 15) = false := beq_eq_false_iff_ne.mpr c50
             have c50b1 : (a0_0 != 15) = true := bne_iff_ne.mpr c50
             (first | rw [c50b0] | (simp only [i64_w, i32_w]; rw [c50b0]) | skip)
             have H' := Aside0.mk H
             clear H
             go_wp2
             go_meet
             case rel => exact ⟨_, ((a0_0 == 16)), (by first | rfl | (simp; done) | (simp [*]; done)), H', ⟨by have := HJ2.out; have := HJ19.out; have := HJ36.out; first | omega | exact Nat.le_refl _⟩, ⟨kr_ HO_6⟩, ⟨bk_ BK214⟩, ⟨bk_ BK215⟩, ⟨bl2_ HB GE214 GE215⟩⟩
           case rest =>
            clear HC49
            try clear c1
            try clear c2
            try clear p2
            try clear c3
            try clear c4
            try clear c5
            try clear c6
            try clear c7
            try clear c7b0
            try clear c7b1
            try clear c9
            try clear c15
            try clear c18
            try clear c19
            try clear c19b0
            try clear c19b1
            try clear c21
            try clear c27
            try clear c27b0
            try clear c27b1
            try clear c28
            try clear c29
            try clear c31
            try clear c38
            try clear c38b0
            try clear c38b1
            try clear c39
            try clear c39b0
            try clear c39b1
            try clear c40
            try clear c43
            try clear c50
            try clear c50b0
            try clear c50b1
            try clear hcz10_0 hcz10_1 hcz10_2 hcz10_3 hcz10_4 hcz10_5 hcz10_6
            try clear hcz12_0 hcz12_1 hcz12_2 hcz12_3 hcz12_4 hcz12_5 hcz12_6
            try clear hcz13_0 hcz13_1
            try clear hcz16_0 hcz16_1 hcz16_2 hcz16_3 hcz16_4 hcz16_5 hcz16_6
            try clear hcz22_0 hcz22_1
            try clear hcz23_0 hcz23_1 hcz23_2 hcz23_3 hcz23_4 hcz23_5 hcz23_6
            try clear hcz26_0 hcz26_1 hcz26_2 hcz26_3 hcz26_4 hcz26_5 hcz26_6
            try clear hcz32_0 hcz32_1
            try clear hcz44_0 hcz44_1
            try clear hfz10_0 hfz10_1 hfz10_2 hfz10_3 hfz10_4 hfz10_5 hfz10_6
            try clear hfz12_0 hfz12_1 hfz12_2 hfz12_3 hfz12_4 hfz12_5 hfz12_6
            try clear hfz13_0 hfz13_1
            try clear hfz16_0 hfz16_1 hfz16_2 hfz16_3 hfz16_4 hfz16_5 hfz16_6
            try clear hfz22_0 hfz22_1
            try clear hfz23_0 hfz23_1 hfz23_2 hfz23_3 hfz23_4 hfz23_5 hfz23_6
            try clear hfz26_0 hfz26_1 hfz26_2 hfz26_3 hfz26_4 hfz26_5 hfz26_6
            try clear hfz32_0 hfz32_1
            try clear hfz44_0 hfz44_1
            try clear p2
            obtain ⟨kq, x50_48, rfl, HA, HJ48, HO_6, BK214, BK215, HB⟩ := hcut
            cases kq with
            | zero => exact absurd HA.out (by simp [pdu_AnswerBytes.j3])
            | succ kj48 =>
             have H := HA.out
             clear HA
             simp only [pdu_AnswerBytes.j3] at H
             by_cases c51 : x50_48 = true
             ·subst c51
              have H1 : ((pdu_lay.f y221 (([a0_1, a0_2] : List Int))).bind fun t239 => (some (t239, 0))) = some (r1, r2) := by rw [if_pos rfl] at H; exact H
              clear H
              have H := H1
              clear H1
              obtain ⟨y236, hy236⟩ : ∃ y_ : List Int, y_ = (([a0_1, a0_2] : List Int)) := ⟨_, rfl⟩
              replace H : ((pdu_lay.f y221 y236).bind fun t239 => (some (t239, 0))) = some (r1, r2) := by first | (rw [hy236]; with_reducible exact H) | (have H2_ := (Option.bind_some _ _).symm.trans H; rw [hy236]; with_reducible exact H2_) | (have H2_ := (Option.bind_some _ _).symm.trans H; with_reducible exact H2_) | with_reducible exact H | (rw [hy236]; exact H) | exact H
              have Ny236 := Aside0.mk hy236
              clear hy236
              replace H := Option.bind_eq_some_iff.mp H
              obtain ⟨t239, A520, H⟩ := H
              replace H : (some (t239, 0)) = some (r1, r2) := H
              have A52 := Aside0.mk A520
              clear A520
              simp only [Option.some.injEq, Prod.mk.injEq] at H
              obtain ⟨rfl, rfl⟩ := H
              have hnb53 := NB214_215.out
              have hnc53 := NB215_214.out
              refine cz7_ BK214.out ?_; intro hcz54_0 hcz54_1 hcz54_2 hcz54_3 hcz54_4 hcz54_5 hcz54_6 hfz54_0 hfz54_1 hfz54_2 hfz54_3 hfz54_4 hfz54_5 hfz54_6
              go_wp2_with (first | ((with_reducible refine gate_dst (N := 58) rfl ?_); refine Kd.R_lit (Kd.int .i64) _ 3 ?hg (N := 58) ?hd (xs := ([a0_1, a0_2] : List Int)) (inner := [.int .i64 a0_1, .int .i64 a0_2]) (ok := fun _ => True) (okp := fun _ => True) ?hr ?hp (fun _ hk => hk) trivial (Below.refl _ _) (Nat.le_refl _) (by simp) ?_; (case hd => rfl); (case hg => rfl); (case hr => first | (go_simp; done) | (go_simp; rfl)); (case hp => exact (Reps.one (show Kd.M (Kd.int .i64) _ _ _ a0_1 [.int .i64 a0_1] from rfl) (Reps.one (show Kd.M (Kd.int .i64) _ _ _ a0_2 [.int .i64 a0_2] from rfl) (Reps.none _ _)))); intro v237 w55 ho56 hb hg_ hnew_; clear hg_ hnew_; (first | rw [← Ny236.out] at ho56 | (simp only [Int.reduceToNat] at ho56; rw [← Ny236.out] at ho56)); have n0_ := Aside0.mk (Kd.R_below (kr_ HO_6) hb); have n1_ := Aside0.mk (Kd.R_lower ho56 (below_size (bl2_ HB GE214 GE215))); have n2_ := Aside0.mk (blk_below (g := gb214) (bk_ BK214) hb); have n3_ := Aside0.mk (blk_below (g := gb215) (bk_ BK215) hb); have n4_ := Aside0.mk (below_step (bl2_ HB GE214 GE215) hb); clear HO_6; clear BK214; clear BK215; clear HB; have HO_6 := n0_; have HO238 := n1_; have BK214 := n2_; have BK215 := n3_; have HB := n4_; clear n0_ n1_ n2_ n3_ n4_; clear hb ho56; obtain ⟨Ao57, co57, eo57⟩ := Kd.R_slice HO_6.out; subst eo57; obtain ⟨Ao58, co58, eo58⟩ := Kd.R_slice HO238.out; subst eo58) | ((with_reducible refine gate_callee (f := 63) rfl ?_); refine goesL_ (some 59) rfl rfl Try.func63 (by kernel_rfl) rfl #[.slice Ao57 y221.length co57, .slice Ao58 y236.length co58] rfl ar_ ?_; (with_reducible refine (pdu_lay.calls _ _ y221 _ _ y236 t239 _ ?side1 ?side2 ?side3 ?side4 A52.out).mono ?_); (case side1 => exact sc_ (Kd.R_reads' HO_6.out).2.2); (case side2 => exact (Kd.R_reads' HO_6.out).2.1); (case side3 => exact sc_ (Kd.R_reads' HO238.out).2.2); (case side4 => exact (Kd.R_reads' HO238.out).2.1); rintro e w59 ⟨v240, rfl, ho0, hb⟩; refine ⟨_, rfl, ?_⟩; have n0_ := Aside0.mk (Kd.R_elder' (kr_ HO_6) (Kd.R_base ho0) hb); have n1_ := Aside0.mk (Kd.R_below (kr_ HO238) hb); have n2_ := Aside0.mk (Kd.R_lower (Kd.R_new' ho0 (Kd.R_lt (kr_ HO_6))) (below_size (bl2_ HB GE214 GE215))); have n3_ := Aside0.mk (blk_below (g := gb214) (bk_ BK214) hb); have n4_ := Aside0.mk (blk_below (g := gb215) (bk_ BK215) hb); have n5_ := Aside0.mk (below_step (bl2_ HB GE214 GE215) hb); clear HO_6; clear HO238; clear BK214; clear BK215; clear HB; have HO_6 := n0_; have HO238 := n1_; have HO241 := n2_; have BK214 := n3_; have BK215 := n4_; have HB := n5_; clear n0_ n1_ n2_ n3_ n4_ n5_; (try clear hb); (try clear hb2); (try clear hk); (try clear hi); (try clear ho0)))
              go_ret2
              exact ⟨_, er_, by (with_reducible repeat (first | apply Kd.R_alloc | apply Kd.R_drewN | apply Kd.R_drew)); exact Kd.R_mono HO241.out (fun _ hk => trivial), bl2_ HB GE214 GE215⟩
             ·replace c51 := Bool.eq_false_iff.mpr c51
              subst c51
              have H1 : ((pdu_Bytes.f kj48 a0_0 a0_1 a0_2 l0_3 a0_4 a0_5 a0_6).bind fun bt242 => (some (bt242.1, bt242.2))) = some (r1, r2) := by rw [if_neg (show ¬ (false = true) by decide)] at H; exact H
              clear H
              have H := H1
              clear H1
              replace H := Option.bind_eq_some_iff.mp H
              obtain ⟨⟨t242, t245⟩, A600, H⟩ := H
              replace H : (some (t242, t245)) = some (r1, r2) := H
              have A60 := Aside0.mk A600
              clear A600
              simp only [Option.some.injEq, Prod.mk.injEq] at H
              obtain ⟨rfl, rfl⟩ := H
              have hnb61 := NB214_215.out
              have hnc61 := NB215_214.out
              refine cz7_ BK214.out ?_; intro hcz62_0 hcz62_1 hcz62_2 hcz62_3 hcz62_4 hcz62_5 hcz62_6 hfz62_0 hfz62_1 hfz62_2 hfz62_3 hfz62_4 hfz62_5 hfz62_6
              go_wp2_with (first | ((with_reducible refine gate_callee (f := 64) rfl ?_); refine goesL_ (some 61) rfl rfl Try.func64 (by kernel_rfl) rfl #[.agg #[.int .i64 a0_0, .int .i64 a0_1, .int .i64 a0_2, .slice A0_3 l0_3.length c0_3, .int .i64 a0_4, .int .i64 a0_5, .int .i64 a0_6]] rfl ar_ ?_; (with_reducible refine (pdu_Bytes.calls kj48 a0_0 a0_1 a0_2 _ _ l0_3 a0_4 a0_5 a0_6 t242 t245 _ ?side1 ?side2 A60.out).mono ?_); (case side1 => exact sc_ (Kd.C_below HR0_3.out HB.out)); (case side2 => exact HC0_3.out); rintro e w63 ⟨v243, rfl, ho0, hb⟩; refine ⟨_, rfl, ?_⟩; have n0_ := Aside0.mk (Kd.R_elder' (kr_ HO_6) (Kd.R_base ho0) hb); have n1_ := Aside0.mk (Kd.R_lower (Kd.R_new' ho0 (Kd.R_lt (kr_ HO_6))) (below_size (bl2_ HB GE214 GE215))); have n2_ := Aside0.mk (blk_below (g := gb214) (bk_ BK214) hb); have n3_ := Aside0.mk (blk_below (g := gb215) (bk_ BK215) hb); have n4_ := Aside0.mk (below_step (bl2_ HB GE214 GE215) hb); clear HO_6; clear BK214; clear BK215; clear HB; have HO_6 := n0_; have HO244 := n1_; have BK214 := n2_; have BK215 := n3_; have HB := n4_; clear n0_ n1_ n2_ n3_ n4_; (try clear hb); (try clear hb2); (try clear hk); (try clear hi); (try clear ho0)))
              go_ret2
              exact ⟨_, er_, by (with_reducible repeat (first | apply Kd.R_alloc | apply Kd.R_drewN | apply Kd.R_drew)); exact Kd.R_mono HO244.out (fun _ hk => trivial), bl2_ HB GE214 GE215⟩
    ·rw [if_neg c19] at H
     have c19b0 : (a1_1 == 0) = false := beq_eq_false_iff_ne.mpr c19
     have c19b1 : (a1_1 != 0) = true := bne_iff_ne.mpr c19
     obtain ⟨y218, hy218⟩ : ∃ y_ : List Int, y_ = (([Go.bits .or .u8 ((a0_0) % 256) 128, (a1_1) % 256] : List Int)) := ⟨_, rfl⟩
     replace H : (some (y218, 0)) = some (r1, r2) := by first | (rw [hy218]; with_reducible exact H) | (have H2_ := (Option.bind_some _ _).symm.trans H; rw [hy218]; with_reducible exact H2_) | (have H2_ := (Option.bind_some _ _).symm.trans H; with_reducible exact H2_) | with_reducible exact H | (rw [hy218]; exact H) | exact H
     have Ny218 := Aside0.mk hy218
     clear hy218
     simp only [Option.some.injEq, Prod.mk.injEq] at H
     obtain ⟨rfl, rfl⟩ := H
     have hnb64 := NB215_214.out
     have hnc64 := NB214_215.out
     refine cz2_ BK215.out ?_; intro hcz65_0 hcz65_1 hfz65_0 hfz65_1
     refine cz7_ BK214.out ?_; intro hcz66_0 hcz66_1 hcz66_2 hcz66_3 hcz66_4 hcz66_5 hcz66_6 hfz66_0 hfz66_1 hfz66_2 hfz66_3 hfz66_4 hfz66_5 hfz66_6
     go_wp2_with (first | ((with_reducible refine gate_dst (N := 26) rfl ?_); refine Kd.R_lit (Kd.int .u8) _ 5 ?hg (N := 26) ?hd (xs := ([Go.bits .or .u8 ((a0_0) % 256) 128, (a1_1) % 256] : List Int)) (inner := [.int .u8 (Go.bits .or .u8 ((a0_0) % 256) 128), .int .u8 ((a1_1) % 256)]) (ok := fun _ => True) (okp := fun _ => True) ?hr ?hp (fun _ hk => hk) trivial (Below.refl _ _) (Nat.le_refl _) (by simp) ?_; (case hd => rfl); (case hg => rfl); (case hr => first | (go_simp; done) | (go_simp; rfl)); (case hp => exact (Reps.one (show Kd.M (Kd.int .u8) _ _ _ (Go.bits .or .u8 ((a0_0) % 256) 128) [.int .u8 (Go.bits .or .u8 ((a0_0) % 256) 128)] from rfl) (Reps.one (show Kd.M (Kd.int .u8) _ _ _ ((a1_1) % 256) [.int .u8 ((a1_1) % 256)] from rfl) (Reps.none _ _)))); intro v219 w67 ho68 hb hg_ hnew_; clear hg_ hnew_; (first | rw [← Ny218.out] at ho68 | (simp only [Int.reduceToNat] at ho68; rw [← Ny218.out] at ho68)); have n0_ := Aside0.mk (Kd.R_lower ho68 (below_size (bl2_ HB GE214 GE215))); have n1_ := Aside0.mk (blk_below (g := gb214) (bk_ BK214) hb); have n2_ := Aside0.mk (blk_below (g := gb215) (bk_ BK215) hb); have n3_ := Aside0.mk (below_step (bl2_ HB GE214 GE215) hb); clear BK214; clear BK215; clear HB; have HO220 := n0_; have BK214 := n1_; have BK215 := n2_; have HB := n3_; clear n0_ n1_ n2_ n3_; clear hb ho68))
     go_ret2
     exact ⟨_, er_, kr_ HO220, bl2_ HB GE214 GE215⟩
end Go.Proofs.Ytlalpooiegganaa.PG
end

section
namespace Go.Proofs.Ytlalpooiegganaa.PG
open Go.RowKit Go.Proofs.YtlalpooiegganaaW.PrintWords Go.Proofs.YtlalpooiegganaaW.PrintLast Go.Proofs.YtlalpooiegganaaW.PrintMore
attribute [local go_sem] max2_int min2_int max_two min_two max_three min_three max_four min_four   
set_option linter.unusedVariables false
set_option linter.unusedSimpArgs false
open Go.Proofs.Ytlalpooiegganaa.Ext Go.Proofs.Ytlalpooiegganaa.PP Go.Proofs.Ytlalpooiegganaa.ExtF Go.Proofs.Ytlalpooiegganaa.ExtM
def bytes_Equal.f (l0 : List Int) (l1 : List Int) : Option (Bool) := some ((strOfNums l0).toList == (strOfNums l1).toList)
set_option maxHeartbeats 8000000 in
set_option maxRecDepth 100000 in
theorem bytes_Equal.calls (A0 : Option Addr) (c0 : Nat) (l0 : List Int) (A1 : Option Addr) (c1 : Nat) (l1 : List Int) (r : Bool) (w : World) (hr0 : Kd.C (Kd.int .u8) w A0 l0.length l0) (hc0 : l0.length ≤ c0) (hr1 : Kd.C (Kd.int .u8) w A1 l1.length l1) (hc1 : l1.length ≤ c1) (h : bytes_Equal.f l0 l1 = some r) :
 Calls Try.prog 51 #[.slice A0 l0.length c0, .slice A1 l1.length c1] w fun e w' => e = .returned (.bool r) ∧ Drawn0 w w' := by
 have HR0 := Aside0.mk hr0
 have HC0 := Aside0.mk hc0
 clear hr0 hc0
 have HR1 := Aside0.mk hr1
 have HC1 := Aside0.mk hc1
 clear hr1 hc1
 have H : (some ((strOfNums l0).toList == (strOfNums l1).toList)) = some r := h
 clear h
 obtain rfl := Option.some.inj H
 have hcv3 := Kd.C_string (P := Try.prog) (A := A0) (c := c0) Try.underlying43 Try.underlying5 Try.underlying9 HR0.out
 have hcv4 := Kd.C_string (P := Try.prog) (A := A1) (c := c1) Try.underlying43 Try.underlying5 Try.underlying9 HR1.out
 go_enter Try.func51, Try.ntmps51
 go_wp2
 go_ret
 exact ⟨by first | rfl | (simp; done) | (simp [*]; done), by repeat (first | exact Drawn0.refl _ | apply Drawn0.step)⟩
end Go.Proofs.Ytlalpooiegganaa.PG
end

section
namespace Go.Proofs.Ytlalpooiegganaa.PG
open Go.RowKit Go.Proofs.YtlalpooiegganaaW.PrintWords Go.Proofs.YtlalpooiegganaaW.PrintLast Go.Proofs.YtlalpooiegganaaW.PrintMore
attribute [local go_sem] max2_int min2_int max_two min_two max_three min_three max_four min_four   
set_option linter.unusedVariables false
set_option linter.unusedSimpArgs false
open Go.Proofs.Ytlalpooiegganaa.Ext Go.Proofs.Ytlalpooiegganaa.PP Go.Proofs.Ytlalpooiegganaa.ExtF Go.Proofs.Ytlalpooiegganaa.ExtM
mutual
def pdu_AnswerParse.j1 : Nat → List Int → Int → Int → Int → List Int → Int → Int → Int → List Int → Int → Option (List Int × Int × Int)
 | 0, _, _, _, _, _, _, _, _, _, _ => none
 | k + 1, x1, x247000, x247001, x247002, x247003, x247004, x247005, x247006, x250000, x250001 => (pdu_AnswerBytes.f k x247000 x247001 x247002 x247003 x247004 x247005 x247006 x250000 x250001).bind fun bt269 => (if bt269.2 = 0 then ((bytes_Equal.f bt269.1 x1).bind fun t273 => (if t273 = true then (some (x250000, x250001, 0)) else (some (([] : List Int), 0, 4)))) else (some (([] : List Int), 0, 4)))
def pdu_AnswerParse.j0 : Nat → List Int → Bool → Int → Int → Int → List Int → Int → Int → Int → Int → Option (List Int × Int × Int)
 | 0, _, _, _, _, _, _, _, _, _, _ => none
 | k + 1, x1, x39, x247000, x247001, x247002, x247003, x247004, x247005, x247006, x250001 => if x39 = true then (if 2 ≤ (x1.length : Int) then ((wire_Unpack.f k (x1.drop 2) x247002).bind fun bt253 => (pdu_AnswerParse.j1 k x1 x247000 x247001 x247002 x247003 x247004 x247005 x247006 bt253.1 x250001)) else (none)) else (if x247000 = 3 then (if 2 ≤ (x1.length : Int) then ((pdu_words.f k (x1.drop 2)).bind fun t258 => (pdu_AnswerParse.j1 k x1 x247000 x247001 x247002 x247003 x247004 x247005 x247006 t258 x250001)) else (none)) else (if x247000 = 4 then (if 2 ≤ (x1.length : Int) then ((pdu_words.f k (x1.drop 2)).bind fun t262 => (pdu_AnswerParse.j1 k x1 x247000 x247001 x247002 x247003 x247004 x247005 x247006 t262 x250001)) else (none)) else (if x247000 = 23 then (if 2 ≤ (x1.length : Int) then ((pdu_words.f k (x1.drop 2)).bind fun t266 => (pdu_AnswerParse.j1 k x1 x247000 x247001 x247002 x247003 x247004 x247005 x247006 t266 x250001)) else (none)) else (pdu_AnswerParse.j1 k x1 x247000 x247001 x247002 x247003 x247004 x247005 x247006 ([] : List Int) x250001))))
end
def pdu_AnswerParse.f (k : Nat) (a0_0 : Int) (a0_1 : Int) (a0_2 : Int) (l0_3 : List Int) (a0_4 : Int) (a0_5 : Int) (a0_6 : Int) (l1 : List Int) : Option (List Int × Int × Int) := (pdu_Check.f a0_0 a0_1 a0_2 l0_3 a0_4 a0_5 a0_6).bind fun t248 => (if t248 = 0 then (if (l1.length : Int) < 2 then (some (([] : List Int), 0, 4)) else (if 0 < (l1.length : Int) then (if (wrap64 (rd l1 0)) = (Go.bits .or .i64 a0_0 128) then (if 1 < (l1.length : Int) then (if (wrap64 (rd l1 1)) = 0 then (some (([] : List Int), wrap64 (rd l1 1), 4)) else (pdu_AnswerParse.j1 k l1 a0_0 a0_1 a0_2 l0_3 a0_4 a0_5 a0_6 ([] : List Int) (wrap64 (rd l1 1)))) else (none)) else (if a0_0 = 1 then (pdu_AnswerParse.j0 k l1 true a0_0 a0_1 a0_2 l0_3 a0_4 a0_5 a0_6 0) else (pdu_AnswerParse.j0 k l1 (a0_0 == 2) a0_0 a0_1 a0_2 l0_3 a0_4 a0_5 a0_6 0))) else (none))) else (some (([] : List Int), 0, t248)))
theorem pdu_AnswerParse.mono_l : ∀ k, (∀ y0 y1 y2 y3 y4 y5 y6 y7 y8 y9, LeO (pdu_AnswerParse.j1 k y0 y1 y2 y3 y4 y5 y6 y7 y8 y9) (pdu_AnswerParse.j1 (k + 1) y0 y1 y2 y3 y4 y5 y6 y7 y8 y9)) ∧ (∀ y0 y1 y2 y3 y4 y5 y6 y7 y8 y9, LeO (pdu_AnswerParse.j0 k y0 y1 y2 y3 y4 y5 y6 y7 y8 y9) (pdu_AnswerParse.j0 (k + 1) y0 y1 y2 y3 y4 y5 y6 y7 y8 y9))
 | 0 => ⟨fun _ _ _ _ _ _ _ _ _ _ r h => by simp [pdu_AnswerParse.j1] at h, fun _ _ _ _ _ _ _ _ _ _ r h => by simp [pdu_AnswerParse.j0] at h⟩
 | k + 1 => by
  obtain ⟨ih0, ih1⟩ := pdu_AnswerParse.mono_l k
  refine ⟨?_, ?_⟩
  ·intro y0 y1 y2 y3 y4 y5 y6 y7 y8 y9
   unfold pdu_AnswerParse.j1
   repeat' first
   | (with_reducible exact ih0 _ _ _ _ _ _ _ _ _ _)
   | (with_reducible exact ih1 _ _ _ _ _ _ _ _ _ _)
   | (with_reducible exact pdu_AnswerBytes.mono _ _ _ _ _ _ _ _ _ _)
   | (with_reducible exact pdu_words.mono _ _)
   | (with_reducible exact wire_Unpack.mono _ _ _)
   | (with_reducible exact LeO.refl _)
   | (with_reducible exact LeO.none _)
   | (with_reducible refine LeO.ite ?_ ?_)
   | (with_reducible refine LeO.bind ?_ (fun _ => ?_))
   | exact ih0 _ _ _ _ _ _ _ _ _ _
   | exact ih1 _ _ _ _ _ _ _ _ _ _
   | exact pdu_AnswerBytes.mono _ _ _ _ _ _ _ _ _ _
   | exact pdu_words.mono _ _
   | exact wire_Unpack.mono _ _ _
   | exact LeO.none _
   | refine LeO.ite ?_ ?_
   | refine LeO.bind ?_ (fun _ => ?_)
  ·intro y0 y1 y2 y3 y4 y5 y6 y7 y8 y9
   unfold pdu_AnswerParse.j0
   repeat' first
   | (with_reducible exact ih0 _ _ _ _ _ _ _ _ _ _)
   | (with_reducible exact ih1 _ _ _ _ _ _ _ _ _ _)
   | (with_reducible exact pdu_AnswerBytes.mono _ _ _ _ _ _ _ _ _ _)
   | (with_reducible exact pdu_words.mono _ _)
   | (with_reducible exact wire_Unpack.mono _ _ _)
   | (with_reducible exact LeO.refl _)
   | (with_reducible exact LeO.none _)
   | (with_reducible refine LeO.ite ?_ ?_)
   | (with_reducible refine LeO.bind ?_ (fun _ => ?_))
   | exact ih0 _ _ _ _ _ _ _ _ _ _
   | exact ih1 _ _ _ _ _ _ _ _ _ _
   | exact pdu_AnswerBytes.mono _ _ _ _ _ _ _ _ _ _
   | exact pdu_words.mono _ _
   | exact wire_Unpack.mono _ _ _
   | exact LeO.none _
   | refine LeO.ite ?_ ?_
   | refine LeO.bind ?_ (fun _ => ?_)
theorem pdu_AnswerParse.mono : ∀ a0 a1 a2 a3 a4 a5 a6 a7 k, LeO (pdu_AnswerParse.f k a0 a1 a2 a3 a4 a5 a6 a7) (pdu_AnswerParse.f (k + 1) a0 a1 a2 a3 a4 a5 a6 a7) := by
 intro a0 a1 a2 a3 a4 a5 a6 a7 k
 obtain ⟨ih0, ih1⟩ := pdu_AnswerParse.mono_l k
 unfold pdu_AnswerParse.f
 repeat' first
  | (with_reducible exact ih0 _ _ _ _ _ _ _ _ _ _)
  | (with_reducible exact ih1 _ _ _ _ _ _ _ _ _ _)
  | (with_reducible exact pdu_AnswerBytes.mono _ _ _ _ _ _ _ _ _ _)
  | (with_reducible exact pdu_words.mono _ _)
  | (with_reducible exact wire_Unpack.mono _ _ _)
  | (with_reducible exact LeO.refl _)
  | (with_reducible exact LeO.none _)
  | (with_reducible refine LeO.ite ?_ ?_)
  | (with_reducible refine LeO.bind ?_ (fun _ => ?_))
  | exact ih0 _ _ _ _ _ _ _ _ _ _
  | exact ih1 _ _ _ _ _ _ _ _ _ _
  | exact pdu_AnswerBytes.mono _ _ _ _ _ _ _ _ _ _
  | exact pdu_words.mono _ _
  | exact wire_Unpack.mono _ _ _
  | exact LeO.none _
  | refine LeO.ite ?_ ?_
  | refine LeO.bind ?_ (fun _ => ?_)
def pdu_AnswerParse.T7 : Bool × List (List Nat × List Nat) := (true, [([], []), ([0], [0]), ([1], [1]), ([2], [2]), ([], []), ([4], [4]), ([5], [5]), ([3, 6], [3, 6]), ([7], [7])])
def pdu_AnswerParse.B7 : List Nat := [0, 1, 3, 7, 0, 16, 48, 127, 255]
theorem pdu_AnswerParse.tab7 : rtab .any (opsOf Try.f35 7) = pdu_AnswerParse.T7 := by kernel_rfl
theorem pdu_AnswerParse.bits7 : waitsOk pdu_AnswerParse.T7.2 pdu_AnswerParse.B7 = true := by kernel_rfl
def pdu_AnswerParse.T12 : Bool × List (List Nat × List Nat) := (true, [([], []), ([0], [0]), ([], []), ([2], [2]), ([1, 3], [1, 3]), ([4], [4]), ([5], [5]), ([5], [5]), ([0, 1, 2, 3, 4, 5, 6], []), ([8, 6, 4, 0, 1, 2, 3, 4, 5, 6], [6, 8])])
def pdu_AnswerParse.B12 : List Nat := [0, 1, 0, 4, 15, 31, 63, 63, 127, 383]
theorem pdu_AnswerParse.tab12 : rtab .any (opsOf Try.f35 12) = pdu_AnswerParse.T12 := by kernel_rfl
theorem pdu_AnswerParse.bits12 : waitsOk pdu_AnswerParse.T12.2 pdu_AnswerParse.B12 = true := by kernel_rfl
set_option maxHeartbeats 8000000 in
set_option maxRecDepth 100000 in
theorem pdu_AnswerParse.calls (k : Nat) (a0_0 : Int) (a0_1 : Int) (a0_2 : Int) (A0_3 : Option Addr) (c0_3 : Nat) (l0_3 : List Int) (a0_4 : Int) (a0_5 : Int) (a0_6 : Int) (A1 : Option Addr) (c1 : Nat) (l1 : List Int) (r1 : List Int) (r2 : Int) (r3 : Int) (w : World) (hr0_3 : Kd.C (Kd.int .i64) w A0_3 l0_3.length l0_3) (hc0_3 : l0_3.length ≤ c0_3) (hr1 : Kd.C (Kd.int .u8) w A1 l1.length l1) (hc1 : l1.length ≤ c1) (h : pdu_AnswerParse.f k a0_0 a0_1 a0_2 l0_3 a0_4 a0_5 a0_6 l1 = some (r1, r2, r3)) :
 Calls Try.prog 35 #[.agg #[.int .i64 a0_0, .int .i64 a0_1, .int .i64 a0_2, .slice A0_3 l0_3.length c0_3, .int .i64 a0_4, .int .i64 a0_5, .int .i64 a0_6], .slice A1 l1.length c1] w fun e w' => ∃ v0_ : Value, e = .returned (.tuple #[.agg #[v0_, .int .i64 r2], .int .i64 r3]) ∧ Kd.R (Kd.int .i64) 3 w' w.heap.size (fun _ => True) v0_ r1 ∧ Below w.heap.size w w' := by
 have hu31 := Try.underlying31
 have hu46 := Try.underlying46
 have HR0_3 := Aside0.mk hr0_3
 have HC0_3 := Aside0.mk hc0_3
 clear hr0_3 hc0_3
 have HR1 := Aside0.mk hr1
 have HC1 := Aside0.mk hc1
 clear hr1 hc1
 have HB := Aside0.mk (Below.refl w.heap.size w)
 have H : ((pdu_Check.f a0_0 a0_1 a0_2 l0_3 a0_4 a0_5 a0_6).bind fun t248 => (if t248 = 0 then (if (l1.length : Int) < 2 then (some (([] : List Int), 0, 4)) else (if 0 < (l1.length : Int) then (if (wrap64 (rd l1 0)) = (Go.bits .or .i64 a0_0 128) then (if 1 < (l1.length : Int) then (if (wrap64 (rd l1 1)) = 0 then (some (([] : List Int), wrap64 (rd l1 1), 4)) else (pdu_AnswerParse.j1 k l1 a0_0 a0_1 a0_2 l0_3 a0_4 a0_5 a0_6 ([] : List Int) (wrap64 (rd l1 1)))) else (none)) else (if a0_0 = 1 then (pdu_AnswerParse.j0 k l1 true a0_0 a0_1 a0_2 l0_3 a0_4 a0_5 a0_6 0) else (pdu_AnswerParse.j0 k l1 (a0_0 == 2) a0_0 a0_1 a0_2 l0_3 a0_4 a0_5 a0_6 0))) else (none))) else (some (([] : List Int), 0, t248)))) = some (r1, r2, r3) := h
 clear h
 replace H := Option.bind_eq_some_iff.mp H
 obtain ⟨t248, A30, H⟩ := H
 replace H : (if t248 = 0 then (if (l1.length : Int) < 2 then (some (([] : List Int), 0, 4)) else (if 0 < (l1.length : Int) then (if (wrap64 (rd l1 0)) = (Go.bits .or .i64 a0_0 128) then (if 1 < (l1.length : Int) then (if (wrap64 (rd l1 1)) = 0 then (some (([] : List Int), wrap64 (rd l1 1), 4)) else (pdu_AnswerParse.j1 k l1 a0_0 a0_1 a0_2 l0_3 a0_4 a0_5 a0_6 ([] : List Int) (wrap64 (rd l1 1)))) else (none)) else (if a0_0 = 1 then (pdu_AnswerParse.j0 k l1 true a0_0 a0_1 a0_2 l0_3 a0_4 a0_5 a0_6 0) else (pdu_AnswerParse.j0 k l1 (a0_0 == 2) a0_0 a0_1 a0_2 l0_3 a0_4 a0_5 a0_6 0))) else (none))) else (some (([] : List Int), 0, t248))) = some (r1, r2, r3) := H
 have A3 := Aside0.mk A30
 clear A30
 by_cases c4 : t248 = 0
 ·rw [if_pos c4] at H
  have c4b0 : (t248 == 0) = true := beq_iff_eq.mpr c4
  have c4b1 : (t248 != 0) = false := bne_eq_false_iff_eq.mpr c4
  clear c4
  have HC5 := Aside0.mk H
  clear H
  go_enter Try.func35, Try.ntmps35
  go_upto_block 0 with (first | ((with_reducible refine gate_dst (N := 2) rfl ?_); refine bx_ (N := 2) (cs := #[.int .i64 a0_0, .int .i64 a0_1, .int .i64 a0_2, .slice A0_3 l0_3.length c0_3, .int .i64 a0_4, .int .i64 a0_5, .int .i64 a0_6]) (t := 31) ?_; intro gb246 hg w6 hbox hb; have n0_ := Aside0.mk (below_step (bl0_ HB) hb); have n1_ := Aside0.mk (hbox); have n2_ := Aside0.mk ((by rw [hg]; exact (below_size (bl0_ HB)) : w.heap.size ≤ gb246)); have n3_ := Aside0.mk ((by rw [hg]; exact (below_size (bl0_ HB)) : w.heap.size ≤ gb246)); clear HB; have HB := n0_; have BK246 := n1_; have GW246 := n2_; have GE246 := n3_; clear n0_ n1_ n2_ n3_; clear hb hbox hg) | ((with_reducible refine gate_dst (N := 4) rfl ?_); refine bx_ (N := 4) (cs := #[.slice none 0 0, .int .i64 0]) (t := 46) ?_; intro gb247 hg w7 hbox hb; have n0_ := Aside0.mk (blk_below (g := gb246) (bk_ BK246) hb); have n1_ := Aside0.mk (below_step (bl1_ HB GE246) hb); have n2_ := Aside0.mk (hbox); have n3_ := Aside0.mk ((by rw [hg]; exact (below_size (bl1_ HB GE246)) : w.heap.size ≤ gb247)); have n4_ := Aside0.mk ((by rw [hg]; exact (below_size (bl1_ HB GE246)) : w.heap.size ≤ gb247)); have n5_ := Aside0.mk ((by rw [hg]; exact Nat.ne_of_lt (blk_lt (g := gb246) (bk_ BK246)) : gb246 ≠ gb247)); have n6_ := Aside0.mk ((by rw [hg]; exact Nat.ne_of_gt (blk_lt (g := gb246) (bk_ BK246)) : gb247 ≠ gb246)); clear BK246; clear HB; have BK246 := n0_; have HB := n1_; have BK247 := n2_; have GW247 := n3_; have GE247 := n4_; have NB246_247 := n5_; have NB247_246 := n6_; clear n0_ n1_ n2_ n3_ n4_ n5_ n6_; clear hb hbox hg; have hnb8 := NB246_247.out; have hnc8 := NB247_246.out; refine cz7_ BK246.out ?_; intro hcz9_0 hcz9_1 hcz9_2 hcz9_3 hcz9_4 hcz9_5 hcz9_6 hfz9_0 hfz9_1 hfz9_2 hfz9_3 hfz9_4 hfz9_5 hfz9_6) | ((with_reducible refine gate_callee (f := 29) rfl ?_); refine goesL_ (some 11) rfl rfl Try.func29 (by kernel_rfl) rfl #[.agg #[.int .i64 a0_0, .int .i64 a0_1, .int .i64 a0_2, .slice A0_3 l0_3.length c0_3, .int .i64 a0_4, .int .i64 a0_5, .int .i64 a0_6]] rfl ar_ ?_; (with_reducible refine (pdu_Check.calls a0_0 a0_1 a0_2 _ _ l0_3 a0_4 a0_5 a0_6 t248 _ ?side1 ?side2 A3.out).mono ?_); (case side1 => exact sc_ (Kd.C_below HR0_3.out HB.out)); (case side2 => exact HC0_3.out); rintro e w10 ⟨rfl, hb⟩; refine ⟨_, rfl, ?_⟩; have n0_ := Aside0.mk (blk_below (g := gb246) (bk_ BK246) hb); have n1_ := Aside0.mk (blk_below (g := gb247) (bk_ BK247) hb); have n2_ := Aside0.mk (below_step (bl2_ HB GE246 GE247) hb); clear BK246; clear BK247; clear HB; have BK246 := n0_; have BK247 := n1_; have HB := n2_; clear n0_ n1_ n2_; (try clear hb); (try clear hb2); (try clear hk); (try clear hi)) | ((with_reducible refine gate_dst (N := 7) rfl ?_); refine bx_ (N := 7) (cs := #[.slice none 0 0, .int .i64 0]) (t := 46) ?_; intro gb249 hg w11 hbox hb; have n0_ := Aside0.mk (blk_below (g := gb246) (bk_ BK246) hb); have n1_ := Aside0.mk (blk_below (g := gb247) (bk_ BK247) hb); have n2_ := Aside0.mk (below_step (bl2_ HB GE246 GE247) hb); have n3_ := Aside0.mk (hbox); have n4_ := Aside0.mk ((by rw [hg]; exact (below_size (bl2_ HB GE246 GE247)) : w.heap.size ≤ gb249)); have n5_ := Aside0.mk ((by rw [hg]; exact (below_size (bl2_ HB GE246 GE247)) : w.heap.size ≤ gb249)); have n6_ := Aside0.mk ((by rw [hg]; exact Nat.ne_of_lt (blk_lt (g := gb246) (bk_ BK246)) : gb246 ≠ gb249)); have n7_ := Aside0.mk ((by rw [hg]; exact Nat.ne_of_gt (blk_lt (g := gb246) (bk_ BK246)) : gb249 ≠ gb246)); have n8_ := Aside0.mk ((by rw [hg]; exact Nat.ne_of_lt (blk_lt (g := gb247) (bk_ BK247)) : gb247 ≠ gb249)); have n9_ := Aside0.mk ((by rw [hg]; exact Nat.ne_of_gt (blk_lt (g := gb247) (bk_ BK247)) : gb249 ≠ gb247)); clear BK246; clear BK247; clear HB; have BK246 := n0_; have BK247 := n1_; have HB := n2_; have BK249 := n3_; have GW249 := n4_; have GE249 := n5_; have NB246_249 := n6_; have NB249_246 := n7_; have NB247_249 := n8_; have NB249_247 := n9_; clear n0_ n1_ n2_ n3_ n4_ n5_ n6_ n7_ n8_ n9_; clear hb hbox hg))
  (try simp only [Act.put, List.setIfInBounds_toArray, List.set_cons_zero, List.set_cons_succ])
  go_cut [] (fun wc => ∃ (kq : Nat) (x248001_4 : Int) (x250000_4 : List Int) (x250001_4 : Int) (u250000 : Value), Aside0 (pdu_AnswerParse.j1 kq l1 a0_0 a0_1 a0_2 l0_3 a0_4 a0_5 a0_6 x250000_4 x250001_4 = some (r1, r2, r3)) ∧ Aside0 (kq ≤ k) ∧ Aside0 (Kd.R (Kd.int .i64) 3 wc w.heap.size (fun _ => True) u250000 x250000_4) ∧ Aside0 (wc.heap[gb246]? = some (.cells #[.int .i64 a0_0, .int .i64 a0_1, .int .i64 a0_2, (.slice A0_3 l0_3.length c0_3), .int .i64 a0_4, .int .i64 a0_5, .int .i64 a0_6] 31 (0, 0))) ∧ Aside0 (wc.heap[gb247]? = some (.cells #[(.slice none 0 0), .int .i64 x248001_4] 46 (0, 0))) ∧ Aside0 (wc.heap[gb249]? = some (.cells #[u250000, .int .i64 x250001_4] 46 (0, 0))) ∧ Aside0 (Below w.heap.size w wc))
  case first =>
   have H := HC5.out
   clear HC5
   by_cases c12 : (l1.length : Int) < 2
   ·rw [if_pos c12] at H
    have c12b0 : decide ((l1.length : Int) < 2) = true := decide_eq_true c12
    have c12b1 : decide (l1.length < 2) = true := decide_eq_true (by omega)
    clear c12
    (first | rw [c12b0] | (simp only [i64_w, i32_w]; rw [c12b0]) | skip)
    simp only [Option.some.injEq, Prod.mk.injEq] at H
    obtain ⟨rfl, rfl, rfl⟩ := H
    have hnb13 := NB249_246.out
    have hnc13 := NB246_249.out
    have hnb14 := NB249_247.out
    have hnc14 := NB247_249.out
    refine cz2_ BK249.out ?_; intro hcz15_0 hcz15_1 hfz15_0 hfz15_1
    have hnb16 := NB247_246.out
    have hnc16 := NB246_247.out
    refine cz2_ BK247.out ?_; intro hcz17_0 hcz17_1 hfz17_0 hfz17_1
    go_wp2
    refine bodyPost_ret (results_ct rfl _ _ gb247 46 #[.slice none 0 0, .int .i64 0] (0, 0) _ rfl (by (with_reducible repeat (first | refine blk_drewN ?_ _ | refine blk_drew ?_ | refine blk_alloc ?_ _)); refine blk_put (cs := #[.slice none 0 0, .int .i64 0]) ?_ 1 _ rfl; (with_reducible repeat (first | refine blk_drewN ?_ _ | refine blk_drew ?_ | refine blk_alloc ?_ _)); refine blk_put (cs := #[.slice none 0 0, .int .i64 0]) ?_ 0 _ rfl; (with_reducible repeat (first | refine blk_drewN ?_ _ | refine blk_drew ?_ | refine blk_alloc ?_ _)); exact BK247.out) Try.underlying46 rfl (by kernel_rfl)) rfl ?_
    exact ⟨_, er_, by first | exact Kd.R_nil _ _ _ _ _ | exact Kd.N_nil _ _ _ _ _ | exact Kd.V_nil _ _ _ _ _ | exact Kd.Q_nil _ _ _ _ _ | exact Kd.S_nil _ _ _ _ _, bl3_ HB GE246 GE247 GE249⟩
   ·rw [if_neg c12] at H
    have c12b0 : decide ((l1.length : Int) < 2) = false := decide_eq_false c12
    have c12b1 : decide (l1.length < 2) = false := decide_eq_false (by omega)
    clear c12
    (first | rw [c12b0] | (simp only [i64_w, i32_w]; rw [c12b0]) | skip)
    by_cases c18 : 0 < (l1.length : Int)
    ·rw [if_pos c18] at H
     have c18b0 : decide (0 < (l1.length : Int)) = true := decide_eq_true c18
     have c18b1 : decide (0 < l1.length) = true := decide_eq_true (by omega)
     clear c18
     by_cases c19 : (wrap64 (rd l1 0)) = (Go.bits .or .i64 a0_0 128)
     ·rw [if_pos c19] at H
      have c19b0 : ((wrap64 (rd l1 0)) == (Go.bits .or .i64 a0_0 128)) = true := beq_iff_eq.mpr c19
      have c19b1 : ((wrap64 (rd l1 0)) != (Go.bits .or .i64 a0_0 128)) = false := bne_eq_false_iff_eq.mpr c19
      clear c19
      by_cases c20 : 1 < (l1.length : Int)
      ·rw [if_pos c20] at H
       have c20b0 : decide (1 < (l1.length : Int)) = true := decide_eq_true c20
       have c20b1 : decide (1 < l1.length) = true := decide_eq_true (by omega)
       clear c20
       by_cases c21 : (wrap64 (rd l1 1)) = 0
       ·rw [if_pos c21] at H
        have c21b0 : ((wrap64 (rd l1 1)) == 0) = true := beq_iff_eq.mpr c21
        have c21b1 : ((wrap64 (rd l1 1)) != 0) = false := bne_eq_false_iff_eq.mpr c21
        clear c21
        simp only [Option.some.injEq, Prod.mk.injEq] at H
        obtain ⟨rfl, rfl, rfl⟩ := H
        try go_wp2
        have n0_ := Aside0.mk (blk_drew BK246.out)
        have n1_ := Aside0.mk (blk_drew BK247.out)
        have n2_ := Aside0.mk (blk_drew BK249.out)
        have n3_ := Aside0.mk (below_drew1 HB.out)
        clear BK246
        clear BK247
        clear BK249
        clear HB
        have BK246 := n0_
        have BK247 := n1_
        have BK249 := n2_
        have HB := n3_
        clear n0_ n1_ n2_ n3_
        have p250 : 0 ≤ (0 : Int) := (by omega)
        have q250 : 0 < (l1.length : Int) := of_decide_eq_true (by first | (with_reducible assumption) | assumption)
        obtain ⟨ad250, e250, hx250_0⟩ := Kd.at_int HR1.out 0 p250 q250
        have hw250_0 := hx250_0
        (try rw [show ((0 : Int)).toNat = 0 from rfl] at hw250_0)
        (try rw [show 0 * 1 = 0 from rfl] at hw250_0)
        (try rw [Addr.add_zero'] at hw250_0)
        cases e250
        have qi250 : (0 < l1.length) = True := eq_true (by omega)
        (try rw [show ((0 : Int)).toNat = 0 from rfl] at hx250_0)
        (try rw [Addr.add_zero'] at hx250_0)
        replace hx250_0 := (HB.out.cell (World.block_lt_of_cell? w _ hx250_0)).trans hx250_0
        replace p250 := eq_true p250
        replace q250 := eq_true q250
        refine start_ (n := 9) (S := fun w' => w'.cell? ⟨gb246, 0, none⟩ = some (.int .i64 a0_0) ∧ w'.cell? ⟨gb246, 1, none⟩ = some (.int .i64 a0_1) ∧ w'.cell? ⟨gb246, 2, none⟩ = some (.int .i64 a0_2) ∧ w'.cell? ⟨gb246, 3, none⟩ = some (.slice A0_3 l0_3.length c0_3) ∧ w'.cell? ⟨gb246, 4, none⟩ = some (.int .i64 a0_4) ∧ w'.cell? ⟨gb246, 5, none⟩ = some (.int .i64 a0_5) ∧ w'.cell? ⟨gb246, 6, none⟩ = some (.int .i64 a0_6) ∧ w'.cell? ad250 = some (.int .u8 (rd l1 0))) (ds := []) #[false, false, false, false, false, false, false, false, false] (by kernel_rfl) rfl rfl ⟨(blk_cell BK246.out 0).trans rfl, (blk_cell BK246.out 1).trans rfl, (blk_cell BK246.out 2).trans rfl, (blk_cell BK246.out 3).trans rfl, (blk_cell BK246.out 4).trans rfl, (blk_cell BK246.out 5).trans rfl, (blk_cell BK246.out 6).trans rfl, ((HB.out.cell (World.block_lt_of_cell? w _ hw250_0)).trans hw250_0)⟩ (fun hHeld => ?_); refine with_tabW pdu_AnswerParse.tab7 pdu_AnswerParse.bits7 (fun HT_ HW_ => ?_)
        generalize w11.drew = w22 at BK246 BK247 BK249 HB hx250_0 hHeld ⊢
        refine pure_ (i := 0) (N := some 22) (v := ?_) (a' := ?_) #[true, false, false, false, false, false, false, false, false] rfl rfl (any_of HT_.out (by kernel_rfl)) (fun _ _ _ h => h) (Or.inl ⟨by rfl, ?_⟩) ?_ ?_
        rotate_left
        ·intro w'
         go_simp
         with_reducible rfl
        rotate_left
        ·simp only [Act.put, List.setIfInBounds_toArray, List.set_cons_zero, List.set_cons_succ, i64_w, i32_w]
         rfl
        refine pure_ (i := 1) (N := some 23) (v := ?_) (a' := ?_) #[true, true, false, false, false, false, false, false, false] rfl rfl (any_of HT_.out (by kernel_rfl)) (fun _ _ _ h => h) (Or.inl ⟨by rfl, ?_⟩) ?_ ?_
        rotate_left
        ·intro w'
         go_simp
         with_reducible rfl
        rotate_left
        ·simp only [Act.put, List.setIfInBounds_toArray, List.set_cons_zero, List.set_cons_succ, i64_w, i32_w]
         rfl
        refine pure_ (i := 4) (N := some 26) (v := ?_) (a' := ?_) #[true, true, false, false, true, false, false, false, false] rfl rfl (any_of HT_.out (by kernel_rfl)) (fun _ _ _ h => h) (Or.inl ⟨by rfl, ?_⟩) ?_ ?_
        rotate_left
        ·intro w'
         go_simp
         with_reducible rfl
        rotate_left
        ·simp only [Act.put, List.setIfInBounds_toArray, List.set_cons_zero, List.set_cons_succ, i64_w, i32_w]
         rfl
        refine take_ (i := 2) (N := some 24) (v := ?_) (a' := ?_) #[true, true, true, false, true, false, false, false, false] rfl rfl (take_ofW HT_.out HW_.out (by kernel_rfl)) (fun _ _ _ h => h) (Or.inl ⟨by rfl, ?_⟩) hHeld ?_ ?_
        rotate_left
        ·rintro w' ⟨s0, s1, s2, s3, s4, s5, s6, s7⟩
         go_simp
         with_reducible rfl
        rotate_left
        ·simp only [Act.put, List.setIfInBounds_toArray, List.set_cons_zero, List.set_cons_succ, i64_w, i32_w]
         rfl
        refine pure_ (i := 3) (N := some 25) (v := ?_) (a' := ?_) #[true, true, true, true, true, false, false, false, false] rfl rfl (any_of HT_.out (by kernel_rfl)) (fun _ _ _ h => h) (Or.inl ⟨by rfl, ?_⟩) ?_ ?_
        rotate_left
        ·intro w'
         go_simp
         with_reducible rfl
        rotate_left
        ·simp only [Act.put, List.setIfInBounds_toArray, List.set_cons_zero, List.set_cons_succ, i64_w, i32_w]
         rfl
        refine take_ (i := 5) (N := some 27) (v := ?_) (a' := ?_) #[true, true, true, true, true, true, false, false, false] rfl rfl (take_ofW HT_.out HW_.out (by kernel_rfl)) (fun _ _ _ h => h) (Or.inl ⟨by rfl, ?_⟩) hHeld ?_ ?_
        rotate_left
        ·rintro w' ⟨s0, s1, s2, s3, s4, s5, s6, s7⟩
         go_simp
         with_reducible rfl
        rotate_left
        ·simp only [Act.put, List.setIfInBounds_toArray, List.set_cons_zero, List.set_cons_succ, i64_w, i32_w]
         rfl
        refine pure_ (i := 6) (N := some 28) (v := ?_) (a' := ?_) #[true, true, true, true, true, true, true, false, false] rfl rfl (any_of HT_.out (by kernel_rfl)) (fun _ _ _ h => h) (Or.inl ⟨by rfl, ?_⟩) ?_ ?_
        rotate_left
        ·intro w'
         go_simp
         with_reducible rfl
        rotate_left
        ·simp only [Act.put, List.setIfInBounds_toArray, List.set_cons_zero, List.set_cons_succ, i64_w, i32_w]
         rfl
        refine pure_ (i := 7) (N := some 29) (v := ?_) (a' := ?_) #[true, true, true, true, true, true, true, true, false] rfl rfl (any_of HT_.out (by kernel_rfl)) (fun _ _ _ h => h) (Or.inl ⟨by rfl, ?_⟩) ?_ ?_
        rotate_left
        ·intro w'
         go_simp
         with_reducible rfl
        rotate_left
        ·simp only [Act.put, List.setIfInBounds_toArray, List.set_cons_zero, List.set_cons_succ, i64_w, i32_w]
         rfl
        refine pure_ (i := 8) (N := some 21) (v := ?_) (a' := ?_) #[true, true, true, true, true, true, true, true, true] rfl rfl (any_of HT_.out (by kernel_rfl)) (fun _ _ _ h => h) (Or.inl ⟨by rfl, ?_⟩) ?_ ?_
        rotate_left
        ·intro w'
         go_simp
         with_reducible rfl
        rotate_left
        ·simp only [Act.put, List.setIfInBounds_toArray, List.set_cons_zero, List.set_cons_succ, i64_w, i32_w]
         rfl
        refine done_ (done_of HT_.out (by kernel_rfl)) ?_
        have p251 : 0 ≤ (1 : Int) := (by omega)
        have q251 : 1 < (l1.length : Int) := of_decide_eq_true (by first | (with_reducible assumption) | assumption)
        obtain ⟨ad251, e251, hx251_0⟩ := Kd.at_int HR1.out 1 p251 q251
        obtain rfl : ad250 = ad251 := (by injection e251)
        (try simp only [show (1 : Int).toNat = 1 from rfl, Nat.reduceMul, Nat.reduceEqDiff, Go.Addr.add, ↓reduceIte] at hx251_0)
        have qi251 : (1 < l1.length) = True := eq_true (by omega)
        (try rw [show ((1 : Int)).toNat = 1 from rfl] at hx251_0)
        replace hx251_0 := (HB.out.cell (World.block_lt_of_cell? w _ hx251_0)).trans hx251_0
        replace p251 := eq_true p251
        replace q251 := eq_true q251
        have hnb23 := NB249_246.out
        have hnc23 := NB246_249.out
        have hnb24 := NB249_247.out
        have hnc24 := NB247_249.out
        refine cz2_ BK249.out ?_; intro hcz25_0 hcz25_1 hfz25_0 hfz25_1
        have hnb26 := NB247_246.out
        have hnc26 := NB246_247.out
        refine cz2_ BK247.out ?_; intro hcz27_0 hcz27_1 hfz27_0 hfz27_1
        try go_wp2
        refine bodyPost_ret (results_ct rfl _ _ gb247 46 #[.slice none 0 0, .int .i64 (wrap64 (rd l1 1))] (0, 0) _ rfl (by (with_reducible repeat (first | refine blk_drewN ?_ _ | refine blk_drew ?_ | refine blk_alloc ?_ _)); refine blk_put (cs := #[.slice none 0 0, .int .i64 0]) ?_ 1 _ rfl; (with_reducible repeat (first | refine blk_drewN ?_ _ | refine blk_drew ?_ | refine blk_alloc ?_ _)); refine blk_put (cs := #[.slice none 0 0, .int .i64 0]) ?_ 0 _ rfl; (with_reducible repeat (first | refine blk_drewN ?_ _ | refine blk_drew ?_ | refine blk_alloc ?_ _)); refine blk_far ?_ NB247_249.out _; (with_reducible repeat (first | refine blk_drewN ?_ _ | refine blk_drew ?_ | refine blk_alloc ?_ _)); exact BK247.out) Try.underlying46 rfl (by kernel_rfl)) rfl ?_
        exact ⟨_, er_, by first | exact Kd.R_nil _ _ _ _ _ | exact Kd.N_nil _ _ _ _ _ | exact Kd.V_nil _ _ _ _ _ | exact Kd.Q_nil _ _ _ _ _ | exact Kd.S_nil _ _ _ _ _, bl3_ HB GE246 GE247 GE249⟩
       ·rw [if_neg c21] at H
        have c21b0 : ((wrap64 (rd l1 1)) == 0) = false := beq_eq_false_iff_ne.mpr c21
        have c21b1 : ((wrap64 (rd l1 1)) != 0) = true := bne_iff_ne.mpr c21
        have H' := Aside0.mk H
        clear H
        try go_wp2
        have n0_ := Aside0.mk (blk_drew BK246.out)
        have n1_ := Aside0.mk (blk_drew BK247.out)
        have n2_ := Aside0.mk (blk_drew BK249.out)
        have n3_ := Aside0.mk (below_drew1 HB.out)
        clear BK246
        clear BK247
        clear BK249
        clear HB
        have BK246 := n0_
        have BK247 := n1_
        have BK249 := n2_
        have HB := n3_
        clear n0_ n1_ n2_ n3_
        have p250 : 0 ≤ (0 : Int) := (by omega)
        have q250 : 0 < (l1.length : Int) := of_decide_eq_true (by first | (with_reducible assumption) | assumption)
        obtain ⟨ad250, e250, hx250_0⟩ := Kd.at_int HR1.out 0 p250 q250
        have hw250_0 := hx250_0
        (try rw [show ((0 : Int)).toNat = 0 from rfl] at hw250_0)
        (try rw [show 0 * 1 = 0 from rfl] at hw250_0)
        (try rw [Addr.add_zero'] at hw250_0)
        cases e250
        have qi250 : (0 < l1.length) = True := eq_true (by omega)
        (try rw [show ((0 : Int)).toNat = 0 from rfl] at hx250_0)
        (try rw [Addr.add_zero'] at hx250_0)
        replace hx250_0 := (HB.out.cell (World.block_lt_of_cell? w _ hx250_0)).trans hx250_0
        replace p250 := eq_true p250
        replace q250 := eq_true q250
        refine start_ (n := 9) (S := fun w' => w'.cell? ⟨gb246, 0, none⟩ = some (.int .i64 a0_0) ∧ w'.cell? ⟨gb246, 1, none⟩ = some (.int .i64 a0_1) ∧ w'.cell? ⟨gb246, 2, none⟩ = some (.int .i64 a0_2) ∧ w'.cell? ⟨gb246, 3, none⟩ = some (.slice A0_3 l0_3.length c0_3) ∧ w'.cell? ⟨gb246, 4, none⟩ = some (.int .i64 a0_4) ∧ w'.cell? ⟨gb246, 5, none⟩ = some (.int .i64 a0_5) ∧ w'.cell? ⟨gb246, 6, none⟩ = some (.int .i64 a0_6) ∧ w'.cell? ad250 = some (.int .u8 (rd l1 0))) (ds := []) #[false, false, false, false, false, false, false, false, false] (by kernel_rfl) rfl rfl ⟨(blk_cell BK246.out 0).trans rfl, (blk_cell BK246.out 1).trans rfl, (blk_cell BK246.out 2).trans rfl, (blk_cell BK246.out 3).trans rfl, (blk_cell BK246.out 4).trans rfl, (blk_cell BK246.out 5).trans rfl, (blk_cell BK246.out 6).trans rfl, ((HB.out.cell (World.block_lt_of_cell? w _ hw250_0)).trans hw250_0)⟩ (fun hHeld => ?_); refine with_tabW pdu_AnswerParse.tab7 pdu_AnswerParse.bits7 (fun HT_ HW_ => ?_)
        generalize w11.drew = w28 at BK246 BK247 BK249 HB hx250_0 hHeld ⊢
        refine pure_ (i := 0) (N := some 22) (v := ?_) (a' := ?_) #[true, false, false, false, false, false, false, false, false] rfl rfl (any_of HT_.out (by kernel_rfl)) (fun _ _ _ h => h) (Or.inl ⟨by rfl, ?_⟩) ?_ ?_
        rotate_left
        ·intro w'
         go_simp
         with_reducible rfl
        rotate_left
        ·simp only [Act.put, List.setIfInBounds_toArray, List.set_cons_zero, List.set_cons_succ, i64_w, i32_w]
         rfl
        refine pure_ (i := 1) (N := some 23) (v := ?_) (a' := ?_) #[true, true, false, false, false, false, false, false, false] rfl rfl (any_of HT_.out (by kernel_rfl)) (fun _ _ _ h => h) (Or.inl ⟨by rfl, ?_⟩) ?_ ?_
        rotate_left
        ·intro w'
         go_simp
         with_reducible rfl
        rotate_left
        ·simp only [Act.put, List.setIfInBounds_toArray, List.set_cons_zero, List.set_cons_succ, i64_w, i32_w]
         rfl
        refine pure_ (i := 4) (N := some 26) (v := ?_) (a' := ?_) #[true, true, false, false, true, false, false, false, false] rfl rfl (any_of HT_.out (by kernel_rfl)) (fun _ _ _ h => h) (Or.inl ⟨by rfl, ?_⟩) ?_ ?_
        rotate_left
        ·intro w'
         go_simp
         with_reducible rfl
        rotate_left
        ·simp only [Act.put, List.setIfInBounds_toArray, List.set_cons_zero, List.set_cons_succ, i64_w, i32_w]
         rfl
        refine take_ (i := 2) (N := some 24) (v := ?_) (a' := ?_) #[true, true, true, false, true, false, false, false, false] rfl rfl (take_ofW HT_.out HW_.out (by kernel_rfl)) (fun _ _ _ h => h) (Or.inl ⟨by rfl, ?_⟩) hHeld ?_ ?_
        rotate_left
        ·rintro w' ⟨s0, s1, s2, s3, s4, s5, s6, s7⟩
         go_simp
         with_reducible rfl
        rotate_left
        ·simp only [Act.put, List.setIfInBounds_toArray, List.set_cons_zero, List.set_cons_succ, i64_w, i32_w]
         rfl
        refine pure_ (i := 3) (N := some 25) (v := ?_) (a' := ?_) #[true, true, true, true, true, false, false, false, false] rfl rfl (any_of HT_.out (by kernel_rfl)) (fun _ _ _ h => h) (Or.inl ⟨by rfl, ?_⟩) ?_ ?_
        rotate_left
        ·intro w'
         go_simp
         with_reducible rfl
        rotate_left
        ·simp only [Act.put, List.setIfInBounds_toArray, List.set_cons_zero, List.set_cons_succ, i64_w, i32_w]
         rfl
        refine take_ (i := 5) (N := some 27) (v := ?_) (a' := ?_) #[true, true, true, true, true, true, false, false, false] rfl rfl (take_ofW HT_.out HW_.out (by kernel_rfl)) (fun _ _ _ h => h) (Or.inl ⟨by rfl, ?_⟩) hHeld ?_ ?_
        rotate_left
        ·rintro w' ⟨s0, s1, s2, s3, s4, s5, s6, s7⟩
         go_simp
         with_reducible rfl
        rotate_left
        ·simp only [Act.put, List.setIfInBounds_toArray, List.set_cons_zero, List.set_cons_succ, i64_w, i32_w]
         rfl
        refine pure_ (i := 6) (N := some 28) (v := ?_) (a' := ?_) #[true, true, true, true, true, true, true, false, false] rfl rfl (any_of HT_.out (by kernel_rfl)) (fun _ _ _ h => h) (Or.inl ⟨by rfl, ?_⟩) ?_ ?_
        rotate_left
        ·intro w'
         go_simp
         with_reducible rfl
        rotate_left
        ·simp only [Act.put, List.setIfInBounds_toArray, List.set_cons_zero, List.set_cons_succ, i64_w, i32_w]
         rfl
        refine pure_ (i := 7) (N := some 29) (v := ?_) (a' := ?_) #[true, true, true, true, true, true, true, true, false] rfl rfl (any_of HT_.out (by kernel_rfl)) (fun _ _ _ h => h) (Or.inl ⟨by rfl, ?_⟩) ?_ ?_
        rotate_left
        ·intro w'
         go_simp
         with_reducible rfl
        rotate_left
        ·simp only [Act.put, List.setIfInBounds_toArray, List.set_cons_zero, List.set_cons_succ, i64_w, i32_w]
         rfl
        refine pure_ (i := 8) (N := some 21) (v := ?_) (a' := ?_) #[true, true, true, true, true, true, true, true, true] rfl rfl (any_of HT_.out (by kernel_rfl)) (fun _ _ _ h => h) (Or.inl ⟨by rfl, ?_⟩) ?_ ?_
        rotate_left
        ·intro w'
         go_simp
         with_reducible rfl
        rotate_left
        ·simp only [Act.put, List.setIfInBounds_toArray, List.set_cons_zero, List.set_cons_succ, i64_w, i32_w]
         rfl
        refine done_ (done_of HT_.out (by kernel_rfl)) ?_
        have p251 : 0 ≤ (1 : Int) := (by omega)
        have q251 : 1 < (l1.length : Int) := of_decide_eq_true (by first | (with_reducible assumption) | assumption)
        obtain ⟨ad251, e251, hx251_0⟩ := Kd.at_int HR1.out 1 p251 q251
        obtain rfl : ad250 = ad251 := (by injection e251)
        (try simp only [show (1 : Int).toNat = 1 from rfl, Nat.reduceMul, Nat.reduceEqDiff, Go.Addr.add, ↓reduceIte] at hx251_0)
        have qi251 : (1 < l1.length) = True := eq_true (by omega)
        (try rw [show ((1 : Int)).toNat = 1 from rfl] at hx251_0)
        replace hx251_0 := (HB.out.cell (World.block_lt_of_cell? w _ hx251_0)).trans hx251_0
        replace p251 := eq_true p251
        replace q251 := eq_true q251
        have hnb29 := NB249_246.out
        have hnc29 := NB246_249.out
        have hnb30 := NB249_247.out
        have hnc30 := NB247_249.out
        refine cz2_ BK249.out ?_; intro hcz31_0 hcz31_1 hfz31_0 hfz31_1
        try go_wp2
        go_meet
        case rel => exact ⟨_, (0), (([] : List Int)), (wrap64 (rd l1 1)), (.slice none 0 0), H', ⟨by first | omega | exact Nat.le_refl _⟩, ⟨by first | exact Kd.R_nil _ _ _ _ _ | exact Kd.N_nil _ _ _ _ _ | exact Kd.V_nil _ _ _ _ _ | exact Kd.Q_nil _ _ _ _ _ | exact Kd.S_nil _ _ _ _ _⟩, ⟨by (with_reducible repeat (first | refine blk_drewN ?_ _ | refine blk_drew ?_ | refine blk_alloc ?_ _)); refine blk_far ?_ NB246_249.out _; (with_reducible repeat (first | refine blk_drewN ?_ _ | refine blk_drew ?_ | refine blk_alloc ?_ _)); exact BK246.out⟩, ⟨by (with_reducible repeat (first | refine blk_drewN ?_ _ | refine blk_drew ?_ | refine blk_alloc ?_ _)); refine blk_far ?_ NB247_249.out _; (with_reducible repeat (first | refine blk_drewN ?_ _ | refine blk_drew ?_ | refine blk_alloc ?_ _)); exact BK247.out⟩, ⟨by (with_reducible repeat (first | refine blk_drewN ?_ _ | refine blk_drew ?_ | refine blk_alloc ?_ _)); refine blk_put (cs := #[.slice none 0 0, .int .i64 0]) ?_ 1 _ rfl; (with_reducible repeat (first | refine blk_drewN ?_ _ | refine blk_drew ?_ | refine blk_alloc ?_ _)); exact BK249.out⟩, ⟨bl3_ HB GE246 GE247 GE249⟩⟩
      ·rw [if_neg c20] at H
       exact absurd H (by simp)
     ·rw [if_neg c19] at H
      have c19b0 : ((wrap64 (rd l1 0)) == (Go.bits .or .i64 a0_0 128)) = false := beq_eq_false_iff_ne.mpr c19
      have c19b1 : ((wrap64 (rd l1 0)) != (Go.bits .or .i64 a0_0 128)) = true := bne_iff_ne.mpr c19
      have HC32 := Aside0.mk H
      clear H
      try go_wp2
      have n0_ := Aside0.mk (blk_drew BK246.out)
      have n1_ := Aside0.mk (blk_drew BK247.out)
      have n2_ := Aside0.mk (blk_drew BK249.out)
      have n3_ := Aside0.mk (below_drew1 HB.out)
      clear BK246
      clear BK247
      clear BK249
      clear HB
      have BK246 := n0_
      have BK247 := n1_
      have BK249 := n2_
      have HB := n3_
      clear n0_ n1_ n2_ n3_
      have p250 : 0 ≤ (0 : Int) := (by omega)
      have q250 : 0 < (l1.length : Int) := of_decide_eq_true (by first | (with_reducible assumption) | assumption)
      obtain ⟨ad250, e250, hx250_0⟩ := Kd.at_int HR1.out 0 p250 q250
      have hw250_0 := hx250_0
      (try rw [show ((0 : Int)).toNat = 0 from rfl] at hw250_0)
      (try rw [show 0 * 1 = 0 from rfl] at hw250_0)
      (try rw [Addr.add_zero'] at hw250_0)
      cases e250
      have qi250 : (0 < l1.length) = True := eq_true (by omega)
      (try rw [show ((0 : Int)).toNat = 0 from rfl] at hx250_0)
      (try rw [Addr.add_zero'] at hx250_0)
      replace hx250_0 := (HB.out.cell (World.block_lt_of_cell? w _ hx250_0)).trans hx250_0
      replace p250 := eq_true p250
      replace q250 := eq_true q250
      refine start_ (n := 9) (S := fun w' => w'.cell? ⟨gb246, 0, none⟩ = some (.int .i64 a0_0) ∧ w'.cell? ⟨gb246, 1, none⟩ = some (.int .i64 a0_1) ∧ w'.cell? ⟨gb246, 2, none⟩ = some (.int .i64 a0_2) ∧ w'.cell? ⟨gb246, 3, none⟩ = some (.slice A0_3 l0_3.length c0_3) ∧ w'.cell? ⟨gb246, 4, none⟩ = some (.int .i64 a0_4) ∧ w'.cell? ⟨gb246, 5, none⟩ = some (.int .i64 a0_5) ∧ w'.cell? ⟨gb246, 6, none⟩ = some (.int .i64 a0_6) ∧ w'.cell? ad250 = some (.int .u8 (rd l1 0))) (ds := []) #[false, false, false, false, false, false, false, false, false] (by kernel_rfl) rfl rfl ⟨(blk_cell BK246.out 0).trans rfl, (blk_cell BK246.out 1).trans rfl, (blk_cell BK246.out 2).trans rfl, (blk_cell BK246.out 3).trans rfl, (blk_cell BK246.out 4).trans rfl, (blk_cell BK246.out 5).trans rfl, (blk_cell BK246.out 6).trans rfl, ((HB.out.cell (World.block_lt_of_cell? w _ hw250_0)).trans hw250_0)⟩ (fun hHeld => ?_); refine with_tabW pdu_AnswerParse.tab7 pdu_AnswerParse.bits7 (fun HT_ HW_ => ?_)
      generalize w11.drew = w33 at BK246 BK247 BK249 HB hx250_0 hHeld ⊢
      refine pure_ (i := 0) (N := some 22) (v := ?_) (a' := ?_) #[true, false, false, false, false, false, false, false, false] rfl rfl (any_of HT_.out (by kernel_rfl)) (fun _ _ _ h => h) (Or.inl ⟨by rfl, ?_⟩) ?_ ?_
      rotate_left
      ·intro w'
       go_simp
       with_reducible rfl
      rotate_left
      ·simp only [Act.put, List.setIfInBounds_toArray, List.set_cons_zero, List.set_cons_succ, i64_w, i32_w]
       rfl
      refine pure_ (i := 1) (N := some 23) (v := ?_) (a' := ?_) #[true, true, false, false, false, false, false, false, false] rfl rfl (any_of HT_.out (by kernel_rfl)) (fun _ _ _ h => h) (Or.inl ⟨by rfl, ?_⟩) ?_ ?_
      rotate_left
      ·intro w'
       go_simp
       with_reducible rfl
      rotate_left
      ·simp only [Act.put, List.setIfInBounds_toArray, List.set_cons_zero, List.set_cons_succ, i64_w, i32_w]
       rfl
      refine pure_ (i := 4) (N := some 26) (v := ?_) (a' := ?_) #[true, true, false, false, true, false, false, false, false] rfl rfl (any_of HT_.out (by kernel_rfl)) (fun _ _ _ h => h) (Or.inl ⟨by rfl, ?_⟩) ?_ ?_
      rotate_left
      ·intro w'
       go_simp
       with_reducible rfl
      rotate_left
      ·simp only [Act.put, List.setIfInBounds_toArray, List.set_cons_zero, List.set_cons_succ, i64_w, i32_w]
       rfl
      refine take_ (i := 2) (N := some 24) (v := ?_) (a' := ?_) #[true, true, true, false, true, false, false, false, false] rfl rfl (take_ofW HT_.out HW_.out (by kernel_rfl)) (fun _ _ _ h => h) (Or.inl ⟨by rfl, ?_⟩) hHeld ?_ ?_
      rotate_left
      ·rintro w' ⟨s0, s1, s2, s3, s4, s5, s6, s7⟩
       go_simp
       with_reducible rfl
      rotate_left
      ·simp only [Act.put, List.setIfInBounds_toArray, List.set_cons_zero, List.set_cons_succ, i64_w, i32_w]
       rfl
      refine pure_ (i := 3) (N := some 25) (v := ?_) (a' := ?_) #[true, true, true, true, true, false, false, false, false] rfl rfl (any_of HT_.out (by kernel_rfl)) (fun _ _ _ h => h) (Or.inl ⟨by rfl, ?_⟩) ?_ ?_
      rotate_left
      ·intro w'
       go_simp
       with_reducible rfl
      rotate_left
      ·simp only [Act.put, List.setIfInBounds_toArray, List.set_cons_zero, List.set_cons_succ, i64_w, i32_w]
       rfl
      refine take_ (i := 5) (N := some 27) (v := ?_) (a' := ?_) #[true, true, true, true, true, true, false, false, false] rfl rfl (take_ofW HT_.out HW_.out (by kernel_rfl)) (fun _ _ _ h => h) (Or.inl ⟨by rfl, ?_⟩) hHeld ?_ ?_
      rotate_left
      ·rintro w' ⟨s0, s1, s2, s3, s4, s5, s6, s7⟩
       go_simp
       with_reducible rfl
      rotate_left
      ·simp only [Act.put, List.setIfInBounds_toArray, List.set_cons_zero, List.set_cons_succ, i64_w, i32_w]
       rfl
      refine pure_ (i := 6) (N := some 28) (v := ?_) (a' := ?_) #[true, true, true, true, true, true, true, false, false] rfl rfl (any_of HT_.out (by kernel_rfl)) (fun _ _ _ h => h) (Or.inl ⟨by rfl, ?_⟩) ?_ ?_
      rotate_left
      ·intro w'
       go_simp
       with_reducible rfl
      rotate_left
      ·simp only [Act.put, List.setIfInBounds_toArray, List.set_cons_zero, List.set_cons_succ, i64_w, i32_w]
       rfl
      refine pure_ (i := 7) (N := some 29) (v := ?_) (a' := ?_) #[true, true, true, true, true, true, true, true, false] rfl rfl (any_of HT_.out (by kernel_rfl)) (fun _ _ _ h => h) (Or.inl ⟨by rfl, ?_⟩) ?_ ?_
      rotate_left
      ·intro w'
       go_simp
       with_reducible rfl
      rotate_left
      ·simp only [Act.put, List.setIfInBounds_toArray, List.set_cons_zero, List.set_cons_succ, i64_w, i32_w]
       rfl
      refine pure_ (i := 8) (N := some 21) (v := ?_) (a' := ?_) #[true, true, true, true, true, true, true, true, true] rfl rfl (any_of HT_.out (by kernel_rfl)) (fun _ _ _ h => h) (Or.inl ⟨by rfl, ?_⟩) ?_ ?_
      rotate_left
      ·intro w'
       go_simp
       with_reducible rfl
      rotate_left
      ·simp only [Act.put, List.setIfInBounds_toArray, List.set_cons_zero, List.set_cons_succ, i64_w, i32_w]
       rfl
      refine done_ (done_of HT_.out (by kernel_rfl)) ?_
      go_upto_region 11 with (fail)
      go_cut [39] (fun v39 wc => ∃ (kq : Nat) (x39_31 : Bool), v39 = .bool x39_31 ∧ Aside0 (pdu_AnswerParse.j0 kq l1 x39_31 a0_0 a0_1 a0_2 l0_3 a0_4 a0_5 a0_6 0 = some (r1, r2, r3)) ∧ Aside0 (kq ≤ k) ∧ Aside0 (wc.heap[gb246]? = some (.cells #[.int .i64 a0_0, .int .i64 a0_1, .int .i64 a0_2, (.slice A0_3 l0_3.length c0_3), .int .i64 a0_4, .int .i64 a0_5, .int .i64 a0_6] 31 (0, 0))) ∧ Aside0 (wc.heap[gb247]? = some (.cells #[(.slice none 0 0), .int .i64 0] 46 (0, 0))) ∧ Aside0 (wc.heap[gb249]? = some (.cells #[(.slice none 0 0), .int .i64 0] 46 (0, 0))) ∧ Aside0 (Below w.heap.size w wc))
      case first =>
       have H := HC32.out
       clear HC32
       by_cases c34 : a0_0 = 1
       ·rw [if_pos c34] at H
        have c34b0 : (a0_0 == 1) = true := beq_iff_eq.mpr c34
        have c34b1 : (a0_0 != 1) = false := bne_eq_false_iff_eq.mpr c34
        clear c34
        (first | rw [c34b0] | (simp only [i64_w, i32_w]; rw [c34b0]) | skip)
        have H' := Aside0.mk H
        clear H
        have hnb35 := NB246_247.out
        have hnc35 := NB247_246.out
        have hnb36 := NB246_249.out
        have hnc36 := NB249_246.out
        refine cz7_ BK246.out ?_; intro hcz37_0 hcz37_1 hcz37_2 hcz37_3 hcz37_4 hcz37_5 hcz37_6 hfz37_0 hfz37_1 hfz37_2 hfz37_3 hfz37_4 hfz37_5 hfz37_6
        go_wp2
        go_meet
        case rel => exact ⟨_, (true), (by first | rfl | (simp; done) | (simp [*]; done)), H', ⟨by first | omega | exact Nat.le_refl _⟩, ⟨bk_ BK246⟩, ⟨bk_ BK247⟩, ⟨bk_ BK249⟩, ⟨bl3_ HB GE246 GE247 GE249⟩⟩
       ·rw [if_neg c34] at H
        have c34b0 : (a0_0 == 1) = false := beq_eq_false_iff_ne.mpr c34
        have c34b1 : (a0_0 != 1) = true := bne_iff_ne.mpr c34
        (first | rw [c34b0] | (simp only [i64_w, i32_w]; rw [c34b0]) | skip)
        have H' := Aside0.mk H
        clear H
        have hnb38 := NB246_247.out
        have hnc38 := NB247_246.out
        have hnb39 := NB246_249.out
        have hnc39 := NB249_246.out
        refine cz7_ BK246.out ?_; intro hcz40_0 hcz40_1 hcz40_2 hcz40_3 hcz40_4 hcz40_5 hcz40_6 hfz40_0 hfz40_1 hfz40_2 hfz40_3 hfz40_4 hfz40_5 hfz40_6
        go_wp2
        go_meet
        case rel => exact ⟨_, ((a0_0 == 2)), (by first | rfl | (simp; done) | (simp [*]; done)), H', ⟨by first | omega | exact Nat.le_refl _⟩, ⟨bk_ BK246⟩, ⟨bk_ BK247⟩, ⟨bk_ BK249⟩, ⟨bl3_ HB GE246 GE247 GE249⟩⟩
      case rest =>
       clear HC32
       try clear c1
       try clear c2
       try clear p2
       try clear q2
       try clear hx2
       try clear qi2
       try clear c3
       try clear c4
       try clear c4b0
       try clear c4b1
       try clear p6
       try clear c8
       try clear c12
       try clear c12b0
       try clear c12b1
       try clear c13
       try clear c14
       try clear c16
       try clear c18
       try clear c18b0
       try clear c18b1
       try clear c19
       try clear c19b0
       try clear c19b1
       try clear c20
       try clear c20b0
       try clear c20b1
       try clear c21
       try clear c21b0
       try clear c21b1
       try clear c23
       try clear c24
       try clear p25
       try clear q25
       try clear hx25
       try clear qi25
       try clear c26
       try clear c29
       try clear c30
       try clear c34
       try clear c34b0
       try clear c34b1
       try clear c35
       try clear c36
       try clear c38
       try clear c39
       try clear hcz15_0 hcz15_1
       try clear hcz17_0 hcz17_1
       try clear hcz25_0 hcz25_1
       try clear hcz27_0 hcz27_1
       try clear hcz31_0 hcz31_1
       try clear hcz37_0 hcz37_1 hcz37_2 hcz37_3 hcz37_4 hcz37_5 hcz37_6
       try clear hcz40_0 hcz40_1 hcz40_2 hcz40_3 hcz40_4 hcz40_5 hcz40_6
       try clear hcz9_0 hcz9_1 hcz9_2 hcz9_3 hcz9_4 hcz9_5 hcz9_6
       try clear hfz15_0 hfz15_1
       try clear hfz17_0 hfz17_1
       try clear hfz25_0 hfz25_1
       try clear hfz27_0 hfz27_1
       try clear hfz31_0 hfz31_1
       try clear hfz37_0 hfz37_1 hfz37_2 hfz37_3 hfz37_4 hfz37_5 hfz37_6
       try clear hfz40_0 hfz40_1 hfz40_2 hfz40_3 hfz40_4 hfz40_5 hfz40_6
       try clear hfz9_0 hfz9_1 hfz9_2 hfz9_3 hfz9_4 hfz9_5 hfz9_6
       try clear hx250_0
       try clear hx251_0
       try clear p250
       try clear p251
       try clear q250
       try clear q251
       obtain ⟨kq, x39_31, rfl, HA, HJ31, BK246, BK247, BK249, HB⟩ := hcut
       cases kq with
       | zero => exact absurd HA.out (by simp [pdu_AnswerParse.j0])
       | succ kj31 =>
        have H := HA.out
        clear HA
        simp only [pdu_AnswerParse.j0] at H
        by_cases c41 : x39_31 = true
        ·subst c41
         have H1 : (if 2 ≤ (l1.length : Int) then ((wire_Unpack.f kj31 (l1.drop 2) a0_2).bind fun bt253 => (pdu_AnswerParse.j1 kj31 l1 a0_0 a0_1 a0_2 l0_3 a0_4 a0_5 a0_6 bt253.1 0)) else (none)) = some (r1, r2, r3) := by rw [if_pos rfl] at H; exact H
         clear H
         have H := H1
         clear H1
         by_cases c42 : 2 ≤ (l1.length : Int)
         ·rw [if_pos c42] at H
          have c42b0 := eq_true c42
          have c42b1 : decide (2 ≤ (l1.length : Int)) = true := decide_eq_true c42
          clear c42
          replace H := Option.bind_eq_some_iff.mp H
          obtain ⟨⟨t253, t254⟩, A430, H⟩ := H
          replace H : (pdu_AnswerParse.j1 kj31 l1 a0_0 a0_1 a0_2 l0_3 a0_4 a0_5 a0_6 t253 0) = some (r1, r2, r3) := H
          have A43 := Aside0.mk A430
          clear A430
          have H' := Aside0.mk H
          clear H
          try go_wp2
          have n0_ := Aside0.mk (blk_drew BK246.out)
          have n1_ := Aside0.mk (blk_drew BK247.out)
          have n2_ := Aside0.mk (blk_drew BK249.out)
          have n3_ := Aside0.mk (below_drew1 HB.out)
          clear BK246
          clear BK247
          clear BK249
          clear HB
          have BK246 := n0_
          have BK247 := n1_
          have BK249 := n2_
          have HB := n3_
          clear n0_ n1_ n2_ n3_
          obtain ⟨i045, hi045, _, hsz45, _⟩ := info_parts info5
          obtain ⟨A45, hcut45, hA45, hC45⟩ := print_drop_of (P := Try.prog) (Value.int .u8) 0 43 5 .i64 Try.underlying43 hi045 hsz45 (some ad250) c1 l1 2 (by omega) (of_decide_eq_true (by first | (with_reducible assumption) | assumption)) HC1.out
          have HR252 := Aside0.mk (Kd.C_of_reads (h1 := fun _ => rfl) (hA45 _ (Kd.reads_of_C HR1.out)))
          have HC252 := Aside0.mk hC45
          clear hA45 hC45 hi045 hsz45
          refine start_ (n := 10) (S := fun w' => w'.cell? ⟨gb246, 0, none⟩ = some (.int .i64 a0_0) ∧ w'.cell? ⟨gb246, 1, none⟩ = some (.int .i64 a0_1) ∧ w'.cell? ⟨gb246, 2, none⟩ = some (.int .i64 a0_2) ∧ w'.cell? ⟨gb246, 3, none⟩ = some (.slice A0_3 l0_3.length c0_3) ∧ w'.cell? ⟨gb246, 4, none⟩ = some (.int .i64 a0_4) ∧ w'.cell? ⟨gb246, 5, none⟩ = some (.int .i64 a0_5) ∧ w'.cell? ⟨gb246, 6, none⟩ = some (.int .i64 a0_6)) (ds := []) #[false, false, false, false, false, false, false, false, false, false] (by kernel_rfl) rfl rfl ⟨(blk_cell BK246.out 0).trans rfl, (blk_cell BK246.out 1).trans rfl, (blk_cell BK246.out 2).trans rfl, (blk_cell BK246.out 3).trans rfl, (blk_cell BK246.out 4).trans rfl, (blk_cell BK246.out 5).trans rfl, (blk_cell BK246.out 6).trans rfl⟩ (fun hHeld => ?_); refine with_tabW pdu_AnswerParse.tab12 pdu_AnswerParse.bits12 (fun HT_ HW_ => ?_)
          generalize wc.drew = w44 at BK246 BK247 BK249 HB HR252 hHeld ⊢
          refine pure_ (i := 0) (N := some 49) (v := ?_) (a' := ?_) #[true, false, false, false, false, false, false, false, false, false] rfl rfl (any_of HT_.out (by kernel_rfl)) (fun _ _ _ h => h) (Or.inl ⟨by rfl, ?_⟩) ?_ ?_
          rotate_left
          ·intro w'
           go_simp
           with_reducible rfl
          rotate_left
          ·simp only [Act.put, List.setIfInBounds_toArray, List.set_cons_zero, List.set_cons_succ, i64_w, i32_w]
           rfl
          refine pure_ (i := 1) (N := some 50) (v := ?_) (a' := ?_) #[true, true, false, false, false, false, false, false, false, false] rfl rfl (any_of HT_.out (by kernel_rfl)) (fun _ _ _ h => h) (Or.inl ⟨by rfl, ?_⟩) ?_ ?_
          rotate_left
          ·intro w'
           go_simp
           with_reducible rfl
          rotate_left
          ·simp only [Act.put, List.setIfInBounds_toArray, List.set_cons_zero, List.set_cons_succ, i64_w, i32_w]
           rfl
          refine pure_ (i := 2) (N := some 51) (v := ?_) (a' := ?_) #[true, true, true, false, false, false, false, false, false, false] rfl rfl (any_of HT_.out (by kernel_rfl)) (fun _ _ _ h => h) (Or.inl ⟨by rfl, ?_⟩) ?_ ?_
          rotate_left
          ·intro w'
           go_simp
           with_reducible rfl
          rotate_left
          ·simp only [Act.put, List.setIfInBounds_toArray, List.set_cons_zero, List.set_cons_succ, i64_w, i32_w]
           rfl
          refine take_ (i := 3) (N := some 52) (v := ?_) (a' := ?_) #[true, true, true, true, false, false, false, false, false, false] rfl rfl (take_ofW HT_.out HW_.out (by kernel_rfl)) (fun _ _ _ h => h) (Or.inl ⟨by rfl, ?_⟩) hHeld ?_ ?_
          rotate_left
          ·rintro w' ⟨s0, s1, s2, s3, s4, s5, s6⟩
           go_simp
           with_reducible rfl
          rotate_left
          ·simp only [Act.put, List.setIfInBounds_toArray, List.set_cons_zero, List.set_cons_succ, i64_w, i32_w]
           rfl
          refine one_ (i := 4) (N := some 53) #[true, true, true, true, true, false, false, false, false, false] rfl rfl (one_of HT_.out (by kernel_rfl)) (by decide) (fun K hK => ?_)
          refine goes_ Try.func48 (by kernel_rfl) rfl #[.slice A45 (l1.drop 2).length (c1 - 2), .int .i64 a0_2] (by rfl) rfl rfl (by (try simp only [List.map_toArray, List.map_cons, List.map_nil]); first | done | (rw [show (l1.drop 2).length = (l1.length - 2) from List.length_drop] <;> rfl) | rfl | (simp only [List.length_drop, List.length_take]; rfl)) ?_
          with_reducible refine (wire_Unpack.calls kj31 _ _ (l1.drop 2) a0_2 t253 t254 _ ?side1 ?side2 A43.out).mono ?_
          (case side1 => exact sc_ (Kd.C_below HR252.out HB.out))
          (case side2 => exact HC252.out)
          rintro e w46 ⟨v255, rfl, ho0, hb⟩
          refine ⟨_, rfl, ?_⟩
          have n0_ := Aside0.mk (Kd.R_lower ho0 (below_size (bl3_ HB GE246 GE247 GE249)))
          have n1_ := Aside0.mk (blk_below (g := gb246) (bk_ BK246) hb)
          have n2_ := Aside0.mk (blk_below (g := gb247) (bk_ BK247) hb)
          have n3_ := Aside0.mk (blk_below (g := gb249) (bk_ BK249) hb)
          have n4_ := Aside0.mk (below_step (bl3_ HB GE246 GE247 GE249) hb)
          clear BK246
          clear BK247
          clear BK249
          clear HB
          have HO256 := n0_
          have BK246 := n1_
          have BK247 := n2_
          have BK249 := n3_
          have HB := n4_
          clear n0_ n1_ n2_ n3_ n4_
          (try clear hb)
          (try clear hb2)
          (try clear hk)
          (try clear hi)
          (try clear ho0)
          obtain ⟨Ao47, co47, eo47⟩ := Kd.R_slice HO256.out
          (first | subst eo47 | (injection eo47 with f1_ f2_ f3_; have f4_ := f1_.symm; have f5_ := f3_.symm; clear f1_ f2_ f3_; subst f4_; subst f5_))
          refine hK.out _ _ ⟨(blk_cell BK246.out 0).trans rfl, (blk_cell BK246.out 1).trans rfl, (blk_cell BK246.out 2).trans rfl, (blk_cell BK246.out 3).trans rfl, (blk_cell BK246.out 4).trans rfl, (blk_cell BK246.out 5).trans rfl, (blk_cell BK246.out 6).trans rfl⟩ (fun hHeld => ?_)
          clear hK K
          refine norm_ (a' := ?_) ?_ ?_
          rotate_left
          ·show Act.put _ (some 53) _ = _
           simp only [Act.put, List.setIfInBounds_toArray, List.set_cons_zero, List.set_cons_succ, i64_w, i32_w]
           rfl
          refine pure_ (i := 5) (N := some 48) (v := ?_) (a' := ?_) #[true, true, true, true, true, true, false, false, false, false] rfl rfl (any_of HT_.out (by kernel_rfl)) (fun _ _ _ h => h) (Or.inl ⟨by rfl, ?_⟩) ?_ ?_
          rotate_left
          ·intro w'
           go_simp
           with_reducible rfl
          rotate_left
          ·simp only [Act.put, List.setIfInBounds_toArray, List.set_cons_zero, List.set_cons_succ, i64_w, i32_w]
           rfl
          refine pure_ (i := 6) (N := some 54) (v := ?_) (a' := ?_) #[true, true, true, true, true, true, true, false, false, false] rfl rfl (any_of HT_.out (by kernel_rfl)) (fun _ _ _ h => h) (Or.inl ⟨by rfl, ?_⟩) ?_ ?_
          rotate_left
          ·intro w'
           go_simp
           with_reducible rfl
          rotate_left
          ·simp only [Act.put, List.setIfInBounds_toArray, List.set_cons_zero, List.set_cons_succ, i64_w, i32_w]
           rfl
          refine pure_ (i := 7) (N := some 55) (v := ?_) (a' := ?_) #[true, true, true, true, true, true, true, true, false, false] rfl rfl (any_of HT_.out (by kernel_rfl)) (fun _ _ _ h => h) (Or.inl ⟨by rfl, ?_⟩) ?_ ?_
          rotate_left
          ·intro w'
           go_simp
           with_reducible rfl
          rotate_left
          ·simp only [Act.put, List.setIfInBounds_toArray, List.set_cons_zero, List.set_cons_succ, i64_w, i32_w]
           rfl
          refine pure_ (i := 8) (N := some 56) (v := ?_) (a' := ?_) #[true, true, true, true, true, true, true, true, true, false] rfl rfl (any_of HT_.out (by kernel_rfl)) (fun _ _ _ h => h) (Or.inl ⟨by rfl, ?_⟩) ?_ ?_
          rotate_left
          ·intro w'
           go_simp
           with_reducible rfl
          rotate_left
          ·simp only [Act.put, List.setIfInBounds_toArray, List.set_cons_zero, List.set_cons_succ, i64_w, i32_w]
           rfl
          refine one_ (i := 9) (N := none) #[true, true, true, true, true, true, true, true, true, true] rfl rfl (one_of HT_.out (by kernel_rfl)) (by decide) (fun K hK => ?_)
          have hs48 : w46.cell? ⟨gb249, 0, none⟩ = some (.slice none 0 0) := (blk_cell BK249.out 0).trans rfl
          have hfs48 := blk_frozen BK249.out 0
          have hns48_0 := NB246_249.out
          have hns48_1 := NB247_249.out
          have hms48_0 := NB249_246.out
          have hms48_1 := NB249_247.out
          refine skip_ (w1 := ?_) (by rfl) rfl ?_ ?_
          rotate_left
          ·go_simp
           rfl
          refine hK.out _ _ ⟨((cell_far (p := ⟨gb249, _, none⟩) NB246_249.out _).trans (hHeld.1)), ((cell_far (p := ⟨gb249, _, none⟩) NB246_249.out _).trans (hHeld.2.1)), ((cell_far (p := ⟨gb249, _, none⟩) NB246_249.out _).trans (hHeld.2.2.1)), ((cell_far (p := ⟨gb249, _, none⟩) NB246_249.out _).trans (hHeld.2.2.2.1)), ((cell_far (p := ⟨gb249, _, none⟩) NB246_249.out _).trans (hHeld.2.2.2.2.1)), ((cell_far (p := ⟨gb249, _, none⟩) NB246_249.out _).trans (hHeld.2.2.2.2.2.1)), ((cell_far (p := ⟨gb249, _, none⟩) NB246_249.out _).trans (hHeld.2.2.2.2.2.2))⟩ (fun hHeld => ?_)
          clear hK K
          refine done_ (done_of HT_.out (by kernel_rfl)) ?_
          try go_wp2
          go_meet
          case rel => exact ⟨_, (0), (t253), (0), (.slice Ao47 t253.length co47), H', ⟨by have := HJ31.out; first | omega | exact Nat.le_refl _⟩, ⟨by (with_reducible repeat (first | apply Kd.R_alloc | apply Kd.R_drewN | apply Kd.R_drew)); exact Kd.R_mono (Kd.R_far (p := ⟨gb249, 0, none⟩) (Kd.R_types HO256.out BK249.out (by decide)) (fun _ hk => hk.2) (.slice Ao47 t253.length co47)) (fun _ hk => trivial)⟩, ⟨by (with_reducible repeat (first | refine blk_drewN ?_ _ | refine blk_drew ?_ | refine blk_alloc ?_ _)); refine blk_far ?_ NB246_249.out _; (with_reducible repeat (first | refine blk_drewN ?_ _ | refine blk_drew ?_ | refine blk_alloc ?_ _)); exact BK246.out⟩, ⟨by (with_reducible repeat (first | refine blk_drewN ?_ _ | refine blk_drew ?_ | refine blk_alloc ?_ _)); refine blk_far ?_ NB247_249.out _; (with_reducible repeat (first | refine blk_drewN ?_ _ | refine blk_drew ?_ | refine blk_alloc ?_ _)); exact BK247.out⟩, ⟨by (with_reducible repeat (first | refine blk_drewN ?_ _ | refine blk_drew ?_ | refine blk_alloc ?_ _)); refine blk_put (cs := #[.slice none 0 0, .int .i64 0]) ?_ 0 _ rfl; (with_reducible repeat (first | refine blk_drewN ?_ _ | refine blk_drew ?_ | refine blk_alloc ?_ _)); exact BK249.out⟩, ⟨bl3_ HB GE246 GE247 GE249⟩⟩
         ·rw [if_neg c42] at H
          exact absurd H (by simp)
        ·replace c41 := Bool.eq_false_iff.mpr c41
         subst c41
         have H1 : (if a0_0 = 3 then (if 2 ≤ (l1.length : Int) then ((pdu_words.f kj31 (l1.drop 2)).bind fun t258 => (pdu_AnswerParse.j1 kj31 l1 a0_0 a0_1 a0_2 l0_3 a0_4 a0_5 a0_6 t258 0)) else (none)) else (if a0_0 = 4 then (if 2 ≤ (l1.length : Int) then ((pdu_words.f kj31 (l1.drop 2)).bind fun t262 => (pdu_AnswerParse.j1 kj31 l1 a0_0 a0_1 a0_2 l0_3 a0_4 a0_5 a0_6 t262 0)) else (none)) else (if a0_0 = 23 then (if 2 ≤ (l1.length : Int) then ((pdu_words.f kj31 (l1.drop 2)).bind fun t266 => (pdu_AnswerParse.j1 kj31 l1 a0_0 a0_1 a0_2 l0_3 a0_4 a0_5 a0_6 t266 0)) else (none)) else (pdu_AnswerParse.j1 kj31 l1 a0_0 a0_1 a0_2 l0_3 a0_4 a0_5 a0_6 ([] : List Int) 0)))) = some (r1, r2, r3) := by rw [if_neg (show ¬ (false = true) by decide)] at H; exact H
         clear H
         have H := H1
         clear H1
         by_cases c49 : a0_0 = 3
         ·rw [if_pos c49] at H
          have c49b0 : (a0_0 == 3) = true := beq_iff_eq.mpr c49
          have c49b1 : (a0_0 != 3) = false := bne_eq_false_iff_eq.mpr c49
          clear c49
          by_cases c50 : 2 ≤ (l1.length : Int)
          ·rw [if_pos c50] at H
           have c50b0 := eq_true c50
           have c50b1 : decide (2 ≤ (l1.length : Int)) = true := decide_eq_true c50
           clear c50
           replace H := Option.bind_eq_some_iff.mp H
           obtain ⟨t258, A510, H⟩ := H
           replace H : (pdu_AnswerParse.j1 kj31 l1 a0_0 a0_1 a0_2 l0_3 a0_4 a0_5 a0_6 t258 0) = some (r1, r2, r3) := H
           have A51 := Aside0.mk A510
           clear A510
           have H' := Aside0.mk H
           clear H
           have hnb52 := NB246_247.out
           have hnc52 := NB247_246.out
           have hnb53 := NB246_249.out
           have hnc53 := NB249_246.out
           refine cz7_ BK246.out ?_; intro hcz54_0 hcz54_1 hcz54_2 hcz54_3 hcz54_4 hcz54_5 hcz54_6 hfz54_0 hfz54_1 hfz54_2 hfz54_3 hfz54_4 hfz54_5 hfz54_6
           obtain ⟨i055, hi055, _, hsz55, _⟩ := info_parts info5
           obtain ⟨A55, hcut55, hA55, hC55⟩ := print_drop_of (P := Try.prog) (Value.int .u8) 0 43 5 .i64 Try.underlying43 hi055 hsz55 (some ad250) c1 l1 2 (by omega) (of_decide_eq_true (by first | (with_reducible assumption) | assumption)) HC1.out
           have HR257 := Aside0.mk (Kd.C_of_reads (h1 := fun _ => rfl) (hA55 _ (Kd.reads_of_C HR1.out)))
           have HC257 := Aside0.mk hC55
           clear hA55 hC55 hi055 hsz55
           go_wp2_with (first | ((with_reducible refine gate_callee (f := 49) rfl ?_); refine goesL_ (some 73) rfl rfl Try.func49 (by kernel_rfl) rfl #[.slice A55 (l1.drop 2).length (c1 - 2)] rfl (by (try simp only [List.map_toArray, List.map_cons, List.map_nil]); first | done | (rw [show (l1.drop 2).length = (l1.length - 2) from List.length_drop] <;> rfl) | rfl | (simp only [List.length_drop, List.length_take]; rfl)) ?_; (with_reducible refine (pdu_words.calls kj31 _ _ (l1.drop 2) t258 _ ?side1 ?side2 A51.out).mono ?_); (case side1 => exact sc_ (Kd.C_below HR257.out HB.out)); (case side2 => exact HC257.out); rintro e w56 ⟨v259, rfl, ho0, hb⟩; refine ⟨_, rfl, ?_⟩; have n0_ := Aside0.mk (Kd.R_lower ho0 (below_size (bl3_ HB GE246 GE247 GE249))); have n1_ := Aside0.mk (blk_below (g := gb246) (bk_ BK246) hb); have n2_ := Aside0.mk (blk_below (g := gb247) (bk_ BK247) hb); have n3_ := Aside0.mk (blk_below (g := gb249) (bk_ BK249) hb); have n4_ := Aside0.mk (below_step (bl3_ HB GE246 GE247 GE249) hb); clear BK246; clear BK247; clear BK249; clear HB; have HO260 := n0_; have BK246 := n1_; have BK247 := n2_; have BK249 := n3_; have HB := n4_; clear n0_ n1_ n2_ n3_ n4_; (try clear hb); (try clear hb2); (try clear hk); (try clear hi); (try clear ho0); obtain ⟨Ao57, co57, eo57⟩ := Kd.R_slice HO260.out; subst eo57; have hnb58 := NB249_247.out; have hnc58 := NB247_249.out; refine cz2_ BK249.out ?_; intro hcz59_0 hcz59_1 hfz59_0 hfz59_1))
           go_meet
           case rel => exact ⟨_, (0), (t258), (0), (.slice Ao57 t258.length co57), H', ⟨by have := HJ31.out; first | omega | exact Nat.le_refl _⟩, ⟨by (with_reducible repeat (first | apply Kd.R_alloc | apply Kd.R_drewN | apply Kd.R_drew)); exact Kd.R_mono (Kd.R_far (p := ⟨gb249, 0, none⟩) (Kd.R_types HO260.out BK249.out (by decide)) (fun _ hk => hk.2) (.slice Ao57 t258.length co57)) (fun _ hk => trivial)⟩, ⟨by (with_reducible repeat (first | refine blk_drewN ?_ _ | refine blk_drew ?_ | refine blk_alloc ?_ _)); refine blk_far ?_ NB246_249.out _; (with_reducible repeat (first | refine blk_drewN ?_ _ | refine blk_drew ?_ | refine blk_alloc ?_ _)); exact BK246.out⟩, ⟨by (with_reducible repeat (first | refine blk_drewN ?_ _ | refine blk_drew ?_ | refine blk_alloc ?_ _)); refine blk_far ?_ NB247_249.out _; (with_reducible repeat (first | refine blk_drewN ?_ _ | refine blk_drew ?_ | refine blk_alloc ?_ _)); exact BK247.out⟩, ⟨by (with_reducible repeat (first | refine blk_drewN ?_ _ | refine blk_drew ?_ | refine blk_alloc ?_ _)); refine blk_put (cs := #[.slice none 0 0, .int .i64 0]) ?_ 0 _ rfl; (with_reducible repeat (first | refine blk_drewN ?_ _ | refine blk_drew ?_ | refine blk_alloc ?_ _)); exact BK249.out⟩, ⟨bl3_ HB GE246 GE247 GE249⟩⟩
          ·rw [if_neg c50] at H
           exact absurd H (by simp)
         ·rw [if_neg c49] at H
          have c49b0 : (a0_0 == 3) = false := beq_eq_false_iff_ne.mpr c49
          have c49b1 : (a0_0 != 3) = true := bne_iff_ne.mpr c49
          by_cases c60 : a0_0 = 4
          ·rw [if_pos c60] at H
           have c60b0 : (a0_0 == 4) = true := beq_iff_eq.mpr c60
           have c60b1 : (a0_0 != 4) = false := bne_eq_false_iff_eq.mpr c60
           clear c60
           by_cases c61 : 2 ≤ (l1.length : Int)
           ·rw [if_pos c61] at H
            have c61b0 := eq_true c61
            have c61b1 : decide (2 ≤ (l1.length : Int)) = true := decide_eq_true c61
            clear c61
            replace H := Option.bind_eq_some_iff.mp H
            obtain ⟨t262, A620, H⟩ := H
            replace H : (pdu_AnswerParse.j1 kj31 l1 a0_0 a0_1 a0_2 l0_3 a0_4 a0_5 a0_6 t262 0) = some (r1, r2, r3) := H
            have A62 := Aside0.mk A620
            clear A620
            have H' := Aside0.mk H
            clear H
            have hnb63 := NB246_247.out
            have hnc63 := NB247_246.out
            have hnb64 := NB246_249.out
            have hnc64 := NB249_246.out
            refine cz7_ BK246.out ?_; intro hcz65_0 hcz65_1 hcz65_2 hcz65_3 hcz65_4 hcz65_5 hcz65_6 hfz65_0 hfz65_1 hfz65_2 hfz65_3 hfz65_4 hfz65_5 hfz65_6
            obtain ⟨i066, hi066, _, hsz66, _⟩ := info_parts info5
            obtain ⟨A66, hcut66, hA66, hC66⟩ := print_drop_of (P := Try.prog) (Value.int .u8) 0 43 5 .i64 Try.underlying43 hi066 hsz66 (some ad250) c1 l1 2 (by omega) (of_decide_eq_true (by first | (with_reducible assumption) | assumption)) HC1.out
            have HR261 := Aside0.mk (Kd.C_of_reads (h1 := fun _ => rfl) (hA66 _ (Kd.reads_of_C HR1.out)))
            have HC261 := Aside0.mk hC66
            clear hA66 hC66 hi066 hsz66
            go_wp2_with (first | ((with_reducible refine gate_callee (f := 49) rfl ?_); refine goesL_ (some 73) rfl rfl Try.func49 (by kernel_rfl) rfl #[.slice A66 (l1.drop 2).length (c1 - 2)] rfl (by (try simp only [List.map_toArray, List.map_cons, List.map_nil]); first | done | (rw [show (l1.drop 2).length = (l1.length - 2) from List.length_drop] <;> rfl) | rfl | (simp only [List.length_drop, List.length_take]; rfl)) ?_; (with_reducible refine (pdu_words.calls kj31 _ _ (l1.drop 2) t262 _ ?side1 ?side2 A62.out).mono ?_); (case side1 => exact sc_ (Kd.C_below HR261.out HB.out)); (case side2 => exact HC261.out); rintro e w67 ⟨v263, rfl, ho0, hb⟩; refine ⟨_, rfl, ?_⟩; have n0_ := Aside0.mk (Kd.R_lower ho0 (below_size (bl3_ HB GE246 GE247 GE249))); have n1_ := Aside0.mk (blk_below (g := gb246) (bk_ BK246) hb); have n2_ := Aside0.mk (blk_below (g := gb247) (bk_ BK247) hb); have n3_ := Aside0.mk (blk_below (g := gb249) (bk_ BK249) hb); have n4_ := Aside0.mk (below_step (bl3_ HB GE246 GE247 GE249) hb); clear BK246; clear BK247; clear BK249; clear HB; have HO264 := n0_; have BK246 := n1_; have BK247 := n2_; have BK249 := n3_; have HB := n4_; clear n0_ n1_ n2_ n3_ n4_; (try clear hb); (try clear hb2); (try clear hk); (try clear hi); (try clear ho0); obtain ⟨Ao68, co68, eo68⟩ := Kd.R_slice HO264.out; subst eo68; have hnb69 := NB249_247.out; have hnc69 := NB247_249.out; refine cz2_ BK249.out ?_; intro hcz70_0 hcz70_1 hfz70_0 hfz70_1))
            go_meet
            case rel => exact ⟨_, (0), (t262), (0), (.slice Ao68 t262.length co68), H', ⟨by have := HJ31.out; first | omega | exact Nat.le_refl _⟩, ⟨by (with_reducible repeat (first | apply Kd.R_alloc | apply Kd.R_drewN | apply Kd.R_drew)); exact Kd.R_mono (Kd.R_far (p := ⟨gb249, 0, none⟩) (Kd.R_types HO264.out BK249.out (by decide)) (fun _ hk => hk.2) (.slice Ao68 t262.length co68)) (fun _ hk => trivial)⟩, ⟨by (with_reducible repeat (first | refine blk_drewN ?_ _ | refine blk_drew ?_ | refine blk_alloc ?_ _)); refine blk_far ?_ NB246_249.out _; (with_reducible repeat (first | refine blk_drewN ?_ _ | refine blk_drew ?_ | refine blk_alloc ?_ _)); exact BK246.out⟩, ⟨by (with_reducible repeat (first | refine blk_drewN ?_ _ | refine blk_drew ?_ | refine blk_alloc ?_ _)); refine blk_far ?_ NB247_249.out _; (with_reducible repeat (first | refine blk_drewN ?_ _ | refine blk_drew ?_ | refine blk_alloc ?_ _)); exact BK247.out⟩, ⟨by (with_reducible repeat (first | refine blk_drewN ?_ _ | refine blk_drew ?_ | refine blk_alloc ?_ _)); refine blk_put (cs := #[.slice none 0 0, .int .i64 0]) ?_ 0 _ rfl; (with_reducible repeat (first | refine blk_drewN ?_ _ | refine blk_drew ?_ | refine blk_alloc ?_ _)); exact BK249.out⟩, ⟨bl3_ HB GE246 GE247 GE249⟩⟩
           ·rw [if_neg c61] at H
            exact absurd H (by simp)
          ·rw [if_neg c60] at H
           have c60b0 : (a0_0 == 4) = false := beq_eq_false_iff_ne.mpr c60
           have c60b1 : (a0_0 != 4) = true := bne_iff_ne.mpr c60
           by_cases c71 : a0_0 = 23
           ·rw [if_pos c71] at H
            have c71b0 : (a0_0 == 23) = true := beq_iff_eq.mpr c71
            have c71b1 : (a0_0 != 23) = false := bne_eq_false_iff_eq.mpr c71
            clear c71
            by_cases c72 : 2 ≤ (l1.length : Int)
            ·rw [if_pos c72] at H
             have c72b0 := eq_true c72
             have c72b1 : decide (2 ≤ (l1.length : Int)) = true := decide_eq_true c72
             clear c72
             replace H := Option.bind_eq_some_iff.mp H
             obtain ⟨t266, A730, H⟩ := H
             replace H : (pdu_AnswerParse.j1 kj31 l1 a0_0 a0_1 a0_2 l0_3 a0_4 a0_5 a0_6 t266 0) = some (r1, r2, r3) := H
             have A73 := Aside0.mk A730
             clear A730
             have H' := Aside0.mk H
             clear H
             have hnb74 := NB246_247.out
             have hnc74 := NB247_246.out
             have hnb75 := NB246_249.out
             have hnc75 := NB249_246.out
             refine cz7_ BK246.out ?_; intro hcz76_0 hcz76_1 hcz76_2 hcz76_3 hcz76_4 hcz76_5 hcz76_6 hfz76_0 hfz76_1 hfz76_2 hfz76_3 hfz76_4 hfz76_5 hfz76_6
             obtain ⟨i077, hi077, _, hsz77, _⟩ := info_parts info5
             obtain ⟨A77, hcut77, hA77, hC77⟩ := print_drop_of (P := Try.prog) (Value.int .u8) 0 43 5 .i64 Try.underlying43 hi077 hsz77 (some ad250) c1 l1 2 (by omega) (of_decide_eq_true (by first | (with_reducible assumption) | assumption)) HC1.out
             have HR265 := Aside0.mk (Kd.C_of_reads (h1 := fun _ => rfl) (hA77 _ (Kd.reads_of_C HR1.out)))
             have HC265 := Aside0.mk hC77
             clear hA77 hC77 hi077 hsz77
             go_wp2_with (first | ((with_reducible refine gate_callee (f := 49) rfl ?_); refine goesL_ (some 73) rfl rfl Try.func49 (by kernel_rfl) rfl #[.slice A77 (l1.drop 2).length (c1 - 2)] rfl (by (try simp only [List.map_toArray, List.map_cons, List.map_nil]); first | done | (rw [show (l1.drop 2).length = (l1.length - 2) from List.length_drop] <;> rfl) | rfl | (simp only [List.length_drop, List.length_take]; rfl)) ?_; (with_reducible refine (pdu_words.calls kj31 _ _ (l1.drop 2) t266 _ ?side1 ?side2 A73.out).mono ?_); (case side1 => exact sc_ (Kd.C_below HR265.out HB.out)); (case side2 => exact HC265.out); rintro e w78 ⟨v267, rfl, ho0, hb⟩; refine ⟨_, rfl, ?_⟩; have n0_ := Aside0.mk (Kd.R_lower ho0 (below_size (bl3_ HB GE246 GE247 GE249))); have n1_ := Aside0.mk (blk_below (g := gb246) (bk_ BK246) hb); have n2_ := Aside0.mk (blk_below (g := gb247) (bk_ BK247) hb); have n3_ := Aside0.mk (blk_below (g := gb249) (bk_ BK249) hb); have n4_ := Aside0.mk (below_step (bl3_ HB GE246 GE247 GE249) hb); clear BK246; clear BK247; clear BK249; clear HB; have HO268 := n0_; have BK246 := n1_; have BK247 := n2_; have BK249 := n3_; have HB := n4_; clear n0_ n1_ n2_ n3_ n4_; (try clear hb); (try clear hb2); (try clear hk); (try clear hi); (try clear ho0); obtain ⟨Ao79, co79, eo79⟩ := Kd.R_slice HO268.out; subst eo79; have hnb80 := NB249_247.out; have hnc80 := NB247_249.out; refine cz2_ BK249.out ?_; intro hcz81_0 hcz81_1 hfz81_0 hfz81_1))
             go_meet
             case rel => exact ⟨_, (0), (t266), (0), (.slice Ao79 t266.length co79), H', ⟨by have := HJ31.out; first | omega | exact Nat.le_refl _⟩, ⟨by (with_reducible repeat (first | apply Kd.R_alloc | apply Kd.R_drewN | apply Kd.R_drew)); exact Kd.R_mono (Kd.R_far (p := ⟨gb249, 0, none⟩) (Kd.R_types HO268.out BK249.out (by decide)) (fun _ hk => hk.2) (.slice Ao79 t266.length co79)) (fun _ hk => trivial)⟩, ⟨by (with_reducible repeat (first | refine blk_drewN ?_ _ | refine blk_drew ?_ | refine blk_alloc ?_ _)); refine blk_far ?_ NB246_249.out _; (with_reducible repeat (first | refine blk_drewN ?_ _ | refine blk_drew ?_ | refine blk_alloc ?_ _)); exact BK246.out⟩, ⟨by (with_reducible repeat (first | refine blk_drewN ?_ _ | refine blk_drew ?_ | refine blk_alloc ?_ _)); refine blk_far ?_ NB247_249.out _; (with_reducible repeat (first | refine blk_drewN ?_ _ | refine blk_drew ?_ | refine blk_alloc ?_ _)); exact BK247.out⟩, ⟨by (with_reducible repeat (first | refine blk_drewN ?_ _ | refine blk_drew ?_ | refine blk_alloc ?_ _)); refine blk_put (cs := #[.slice none 0 0, .int .i64 0]) ?_ 0 _ rfl; (with_reducible repeat (first | refine blk_drewN ?_ _ | refine blk_drew ?_ | refine blk_alloc ?_ _)); exact BK249.out⟩, ⟨bl3_ HB GE246 GE247 GE249⟩⟩
            ·rw [if_neg c72] at H
             exact absurd H (by simp)
           ·rw [if_neg c71] at H
            have c71b0 : (a0_0 == 23) = false := beq_eq_false_iff_ne.mpr c71
            have c71b1 : (a0_0 != 23) = true := bne_iff_ne.mpr c71
            have H' := Aside0.mk H
            clear H
            have hnb82 := NB246_247.out
            have hnc82 := NB247_246.out
            have hnb83 := NB246_249.out
            have hnc83 := NB249_246.out
            refine cz7_ BK246.out ?_; intro hcz84_0 hcz84_1 hcz84_2 hcz84_3 hcz84_4 hcz84_5 hcz84_6 hfz84_0 hfz84_1 hfz84_2 hfz84_3 hfz84_4 hfz84_5 hfz84_6
            go_wp2
            go_meet
            case rel => exact ⟨_, (0), (([] : List Int)), (0), (.slice none 0 0), H', ⟨by have := HJ31.out; first | omega | exact Nat.le_refl _⟩, ⟨by first | exact Kd.R_nil _ _ _ _ _ | exact Kd.N_nil _ _ _ _ _ | exact Kd.V_nil _ _ _ _ _ | exact Kd.Q_nil _ _ _ _ _ | exact Kd.S_nil _ _ _ _ _⟩, ⟨bk_ BK246⟩, ⟨bk_ BK247⟩, ⟨bk_ BK249⟩, ⟨bl3_ HB GE246 GE247 GE249⟩⟩
    ·rw [if_neg c18] at H
     exact absurd H (by simp)
  case rest =>
   clear HC5
   try clear c1
   try clear c2
   try clear p2
   try clear q2
   try clear hx2
   try clear qi2
   try clear c3
   try clear c4
   try clear c4b0
   try clear c4b1
   try clear c5
   try clear c6
   try clear p6
   try clear c7
   try clear c8
   try clear c12
   try clear c12b0
   try clear c12b1
   try clear c13
   try clear c14
   try clear c16
   try clear c18
   try clear c18b0
   try clear c18b1
   try clear c19
   try clear c19b0
   try clear c19b1
   try clear c20
   try clear c20b0
   try clear c20b1
   try clear c21
   try clear c21b0
   try clear c21b1
   try clear c23
   try clear c24
   try clear p25
   try clear q25
   try clear hx25
   try clear qi25
   try clear c26
   try clear c29
   try clear c30
   try clear c34
   try clear c34b0
   try clear c34b1
   try clear c35
   try clear c36
   try clear c38
   try clear c39
   try clear c41
   try clear c42
   try clear c42b0
   try clear c42b1
   try clear c48
   try clear c49
   try clear c49b0
   try clear c49b1
   try clear c50
   try clear c50b0
   try clear c50b1
   try clear c52
   try clear c53
   try clear c58
   try clear c60
   try clear c60b0
   try clear c60b1
   try clear c61
   try clear c61b0
   try clear c61b1
   try clear c63
   try clear c64
   try clear c69
   try clear c71
   try clear c71b0
   try clear c71b1
   try clear c72
   try clear c72b0
   try clear c72b1
   try clear c74
   try clear c75
   try clear c80
   try clear c82
   try clear c83
   try clear hcz15_0 hcz15_1
   try clear hcz17_0 hcz17_1
   try clear hcz25_0 hcz25_1
   try clear hcz27_0 hcz27_1
   try clear hcz31_0 hcz31_1
   try clear hcz37_0 hcz37_1 hcz37_2 hcz37_3 hcz37_4 hcz37_5 hcz37_6
   try clear hcz40_0 hcz40_1 hcz40_2 hcz40_3 hcz40_4 hcz40_5 hcz40_6
   try clear hcz54_0 hcz54_1 hcz54_2 hcz54_3 hcz54_4 hcz54_5 hcz54_6
   try clear hcz59_0 hcz59_1
   try clear hcz65_0 hcz65_1 hcz65_2 hcz65_3 hcz65_4 hcz65_5 hcz65_6
   try clear hcz70_0 hcz70_1
   try clear hcz76_0 hcz76_1 hcz76_2 hcz76_3 hcz76_4 hcz76_5 hcz76_6
   try clear hcz81_0 hcz81_1
   try clear hcz84_0 hcz84_1 hcz84_2 hcz84_3 hcz84_4 hcz84_5 hcz84_6
   try clear hcz9_0 hcz9_1 hcz9_2 hcz9_3 hcz9_4 hcz9_5 hcz9_6
   try clear hfz15_0 hfz15_1
   try clear hfz17_0 hfz17_1
   try clear hfz25_0 hfz25_1
   try clear hfz27_0 hfz27_1
   try clear hfz31_0 hfz31_1
   try clear hfz37_0 hfz37_1 hfz37_2 hfz37_3 hfz37_4 hfz37_5 hfz37_6
   try clear hfz40_0 hfz40_1 hfz40_2 hfz40_3 hfz40_4 hfz40_5 hfz40_6
   try clear hfz54_0 hfz54_1 hfz54_2 hfz54_3 hfz54_4 hfz54_5 hfz54_6
   try clear hfz59_0 hfz59_1
   try clear hfz65_0 hfz65_1 hfz65_2 hfz65_3 hfz65_4 hfz65_5 hfz65_6
   try clear hfz70_0 hfz70_1
   try clear hfz76_0 hfz76_1 hfz76_2 hfz76_3 hfz76_4 hfz76_5 hfz76_6
   try clear hfz81_0 hfz81_1
   try clear hfz84_0 hfz84_1 hfz84_2 hfz84_3 hfz84_4 hfz84_5 hfz84_6
   try clear hfz9_0 hfz9_1 hfz9_2 hfz9_3 hfz9_4 hfz9_5 hfz9_6
   try clear hx250_0
   try clear hx251_0
   try clear p2
   try clear p25
   try clear p250
   try clear p251
   try clear p6
   try clear q2
   try clear q25
   try clear q250
   try clear q251
   obtain ⟨kq, x248001_4, x250000_4, x250001_4, u250000, HA, HJ4, HO_250000, BK246, BK247, BK249, HB⟩ := hcut
   cases kq with
   | zero => exact absurd HA.out (by simp [pdu_AnswerParse.j1])
   | succ kj4 =>
    have H := HA.out
    clear HA
    simp only [pdu_AnswerParse.j1] at H
    replace H := Option.bind_eq_some_iff.mp H
    obtain ⟨⟨t269, t272⟩, A850, H⟩ := H
    replace H : (if t272 = 0 then ((bytes_Equal.f t269 l1).bind fun t273 => (if t273 = true then (some (x250000_4, x250001_4, 0)) else (some (([] : List Int), 0, 4)))) else (some (([] : List Int), 0, 4))) = some (r1, r2, r3) := H
    have A85 := Aside0.mk A850
    clear A850
    by_cases c86 : t272 = 0
    ·rw [if_pos c86] at H
     have c86b0 : (t272 == 0) = true := beq_iff_eq.mpr c86
     have c86b1 : (t272 != 0) = false := bne_eq_false_iff_eq.mpr c86
     clear c86
     replace H := Option.bind_eq_some_iff.mp H
     obtain ⟨t273, A870, H⟩ := H
     replace H : (if t273 = true then (some (x250000_4, x250001_4, 0)) else (some (([] : List Int), 0, 4))) = some (r1, r2, r3) := H
     have A87 := Aside0.mk A870
     clear A870
     by_cases c88 : t273 = true
     ·subst c88
      have H1 : (some (x250000_4, x250001_4, 0)) = some (r1, r2, r3) := by rw [if_pos rfl] at H; exact H
      clear H
      have H := H1
      clear H1
      simp only [Option.some.injEq, Prod.mk.injEq] at H
      obtain ⟨rfl, rfl, rfl⟩ := H
      have hnb89 := NB246_247.out
      have hnc89 := NB247_246.out
      have hnb90 := NB246_249.out
      have hnc90 := NB249_246.out
      refine cz7_ BK246.out ?_; intro hcz91_0 hcz91_1 hcz91_2 hcz91_3 hcz91_4 hcz91_5 hcz91_6 hfz91_0 hfz91_1 hfz91_2 hfz91_3 hfz91_4 hfz91_5 hfz91_6
      have hnb92 := NB249_247.out
      have hnc92 := NB247_249.out
      refine cz2_ BK249.out ?_; intro hcz93_0 hcz93_1 hfz93_0 hfz93_1
      obtain ⟨Ao94, co94, eo94⟩ := Kd.R_slice HO_250000.out
      subst eo94
      go_wp2_with (first | ((with_reducible refine gate_callee (f := 50) rfl ?_); refine goesL_ (some 78) rfl rfl Try.func50 (by kernel_rfl) rfl #[.agg #[.int .i64 a0_0, .int .i64 a0_1, .int .i64 a0_2, .slice A0_3 l0_3.length c0_3, .int .i64 a0_4, .int .i64 a0_5, .int .i64 a0_6], .agg #[.slice Ao94 x250000_4.length co94, .int .i64 x250001_4]] rfl ar_ ?_; (with_reducible refine (pdu_AnswerBytes.calls kj4 a0_0 a0_1 a0_2 _ _ l0_3 a0_4 a0_5 a0_6 _ _ x250000_4 x250001_4 t269 t272 _ ?side1 ?side2 ?side3 ?side4 A85.out).mono ?_); (case side1 => exact sc_ (Kd.C_below HR0_3.out HB.out)); (case side2 => exact HC0_3.out); (case side3 => exact sc_ (Kd.R_reads' HO_250000.out).2.2); (case side4 => exact (Kd.R_reads' HO_250000.out).2.1); rintro e w95 ⟨v270, rfl, ho0, hb⟩; refine ⟨_, rfl, ?_⟩; have n0_ := Aside0.mk (Kd.R_below (kr_ HO_250000) hb); have n1_ := Aside0.mk (Kd.R_lower ho0 (below_size (bl3_ HB GE246 GE247 GE249))); have n2_ := Aside0.mk (blk_below (g := gb246) (bk_ BK246) hb); have n3_ := Aside0.mk (blk_below (g := gb247) (bk_ BK247) hb); have n4_ := Aside0.mk (blk_below (g := gb249) (bk_ BK249) hb); have n5_ := Aside0.mk (below_step (bl3_ HB GE246 GE247 GE249) hb); clear HO_250000; clear BK246; clear BK247; clear BK249; clear HB; have HO_250000 := n0_; have HO271 := n1_; have BK246 := n2_; have BK247 := n3_; have BK249 := n4_; have HB := n5_; clear n0_ n1_ n2_ n3_ n4_ n5_; (try clear hb); (try clear hb2); (try clear hk); (try clear hi); (try clear ho0); obtain ⟨Ao96, co96, eo96⟩ := Kd.R_slice HO271.out; subst eo96) | (go_at_call 51; (with_reducible refine (bytes_Equal.calls _ _ t269 _ _ l1 true _ ?side1 ?side2 ?side3 ?side4 A87.out).mono ?_); (case side1 => exact sc_ (Kd.R_reads' HO271.out).2.2); (case side2 => exact (Kd.R_reads' HO271.out).2.1); (case side3 => exact sc_ (Kd.C_below HR1.out HB.out)); (case side4 => exact HC1.out); rintro e w' ⟨rfl, ⟨nd, rfl⟩⟩; (try (rw [drewN_self w95]; generalize hq_ : World.drewN w95 _ = w95; have n0_ : Aside0 (Kd.R (Kd.int .u8) 5 w95 w.heap.size (fun _ => True) (.slice Ao96 t269.length co96) t269) := ⟨by rw [← hq_]; exact (kr_ HO271)⟩; have n1_ : Aside0 (Kd.R (Kd.int .i64) 3 w95 w.heap.size (fun _ => True) (.slice Ao94 x250000_4.length co94) x250000_4) := ⟨by rw [← hq_]; exact (kr_ HO_250000)⟩; have n2_ : Aside0 (w95.heap[gb246]? = some (.cells #[.int .i64 a0_0, .int .i64 a0_1, .int .i64 a0_2, .slice A0_3 l0_3.length c0_3, .int .i64 a0_4, .int .i64 a0_5, .int .i64 a0_6] 31 (0, 0))) := ⟨by rw [← hq_]; exact (bk_ BK246)⟩; have n3_ : Aside0 (w95.heap[gb247]? = some (.cells #[.slice none 0 0, .int .i64 x248001_4] 46 (0, 0))) := ⟨by rw [← hq_]; exact (bk_ BK247)⟩; have n4_ : Aside0 (w95.heap[gb249]? = some (.cells #[.slice Ao94 x250000_4.length co94, .int .i64 x250001_4] 46 (0, 0))) := ⟨by rw [← hq_]; exact (bk_ BK249)⟩; have n5_ : Aside0 (Below w.heap.size w w95) := ⟨by rw [← hq_]; exact (bl3_ HB GE246 GE247 GE249)⟩; clear HO271 HO_250000 BK246 BK247 BK249 HB hq_; have HO271 := n0_; have HO_250000 := n1_; have BK246 := n2_; have BK247 := n3_; have BK249 := n4_; have HB := n5_; clear n0_ n1_ n2_ n3_ n4_ n5_)); refine cz2_ BK249.out ?_; intro hcz97_0 hcz97_1 hfz97_0 hfz97_1; refine cz2_ BK247.out ?_; intro hcz98_0 hcz98_1 hfz98_0 hfz98_1))
      refine bodyPost_ret (results_ct rfl _ _ gb247 46 #[.slice Ao94 x250000_4.length co94, .int .i64 x250001_4] (0, 0) _ rfl (by (with_reducible repeat (first | refine blk_drewN ?_ _ | refine blk_drew ?_ | refine blk_alloc ?_ _)); refine blk_put (cs := #[.slice Ao94 x250000_4.length co94, .int .i64 x248001_4]) ?_ 1 _ rfl; (with_reducible repeat (first | refine blk_drewN ?_ _ | refine blk_drew ?_ | refine blk_alloc ?_ _)); refine blk_put (cs := #[.slice none 0 0, .int .i64 x248001_4]) ?_ 0 _ rfl; (with_reducible repeat (first | refine blk_drewN ?_ _ | refine blk_drew ?_ | refine blk_alloc ?_ _)); exact BK247.out) Try.underlying46 rfl (by kernel_rfl)) rfl ?_
      exact ⟨_, er_, by (with_reducible repeat (first | apply Kd.R_alloc | apply Kd.R_drewN | apply Kd.R_drew)); exact Kd.R_mono (Kd.R_far (p := ⟨gb247, 1, none⟩) (Kd.R_far (p := ⟨gb247, 0, none⟩) (Kd.R_types HO_250000.out BK247.out (by decide)) (fun _ hk => hk.2) (.slice Ao94 x250000_4.length co94)) (fun _ hk => hk.2) (.int .i64 x250001_4)) (fun _ hk => trivial), bl3_ HB GE246 GE247 GE249⟩
     ·replace c88 := Bool.eq_false_iff.mpr c88
      subst c88
      have H1 : (some (([] : List Int), 0, 4)) = some (r1, r2, r3) := by rw [if_neg (show ¬ (false = true) by decide)] at H; exact H
      clear H
      have H := H1
      clear H1
      simp only [Option.some.injEq, Prod.mk.injEq] at H
      obtain ⟨rfl, rfl, rfl⟩ := H
      have hnb99 := NB246_247.out
      have hnc99 := NB247_246.out
      have hnb100 := NB246_249.out
      have hnc100 := NB249_246.out
      refine cz7_ BK246.out ?_; intro hcz101_0 hcz101_1 hcz101_2 hcz101_3 hcz101_4 hcz101_5 hcz101_6 hfz101_0 hfz101_1 hfz101_2 hfz101_3 hfz101_4 hfz101_5 hfz101_6
      have hnb102 := NB249_247.out
      have hnc102 := NB247_249.out
      refine cz2_ BK249.out ?_; intro hcz103_0 hcz103_1 hfz103_0 hfz103_1
      obtain ⟨Ao104, co104, eo104⟩ := Kd.R_slice HO_250000.out
      subst eo104
      go_wp2_with (first | ((with_reducible refine gate_callee (f := 50) rfl ?_); refine goesL_ (some 78) rfl rfl Try.func50 (by kernel_rfl) rfl #[.agg #[.int .i64 a0_0, .int .i64 a0_1, .int .i64 a0_2, .slice A0_3 l0_3.length c0_3, .int .i64 a0_4, .int .i64 a0_5, .int .i64 a0_6], .agg #[.slice Ao104 x250000_4.length co104, .int .i64 x250001_4]] rfl ar_ ?_; (with_reducible refine (pdu_AnswerBytes.calls kj4 a0_0 a0_1 a0_2 _ _ l0_3 a0_4 a0_5 a0_6 _ _ x250000_4 x250001_4 t269 t272 _ ?side1 ?side2 ?side3 ?side4 A85.out).mono ?_); (case side1 => exact sc_ (Kd.C_below HR0_3.out HB.out)); (case side2 => exact HC0_3.out); (case side3 => exact sc_ (Kd.R_reads' HO_250000.out).2.2); (case side4 => exact (Kd.R_reads' HO_250000.out).2.1); rintro e w105 ⟨v270, rfl, ho0, hb⟩; refine ⟨_, rfl, ?_⟩; have n0_ := Aside0.mk (Kd.R_below (kr_ HO_250000) hb); have n1_ := Aside0.mk (Kd.R_lower ho0 (below_size (bl3_ HB GE246 GE247 GE249))); have n2_ := Aside0.mk (blk_below (g := gb246) (bk_ BK246) hb); have n3_ := Aside0.mk (blk_below (g := gb247) (bk_ BK247) hb); have n4_ := Aside0.mk (blk_below (g := gb249) (bk_ BK249) hb); have n5_ := Aside0.mk (below_step (bl3_ HB GE246 GE247 GE249) hb); clear HO_250000; clear BK246; clear BK247; clear BK249; clear HB; have HO_250000 := n0_; have HO271 := n1_; have BK246 := n2_; have BK247 := n3_; have BK249 := n4_; have HB := n5_; clear n0_ n1_ n2_ n3_ n4_ n5_; (try clear hb); (try clear hb2); (try clear hk); (try clear hi); (try clear ho0); obtain ⟨Ao106, co106, eo106⟩ := Kd.R_slice HO271.out; subst eo106) | (go_at_call 51; (with_reducible refine (bytes_Equal.calls _ _ t269 _ _ l1 false _ ?side1 ?side2 ?side3 ?side4 A87.out).mono ?_); (case side1 => exact sc_ (Kd.R_reads' HO271.out).2.2); (case side2 => exact (Kd.R_reads' HO271.out).2.1); (case side3 => exact sc_ (Kd.C_below HR1.out HB.out)); (case side4 => exact HC1.out); rintro e w' ⟨rfl, ⟨nd, rfl⟩⟩; (try (rw [drewN_self w105]; generalize hq_ : World.drewN w105 _ = w105; have n0_ : Aside0 (Kd.R (Kd.int .u8) 5 w105 w.heap.size (fun _ => True) (.slice Ao106 t269.length co106) t269) := ⟨by rw [← hq_]; exact (kr_ HO271)⟩; have n1_ : Aside0 (Kd.R (Kd.int .i64) 3 w105 w.heap.size (fun _ => True) (.slice Ao104 x250000_4.length co104) x250000_4) := ⟨by rw [← hq_]; exact (kr_ HO_250000)⟩; have n2_ : Aside0 (w105.heap[gb246]? = some (.cells #[.int .i64 a0_0, .int .i64 a0_1, .int .i64 a0_2, .slice A0_3 l0_3.length c0_3, .int .i64 a0_4, .int .i64 a0_5, .int .i64 a0_6] 31 (0, 0))) := ⟨by rw [← hq_]; exact (bk_ BK246)⟩; have n3_ : Aside0 (w105.heap[gb247]? = some (.cells #[.slice none 0 0, .int .i64 x248001_4] 46 (0, 0))) := ⟨by rw [← hq_]; exact (bk_ BK247)⟩; have n4_ : Aside0 (w105.heap[gb249]? = some (.cells #[.slice Ao104 x250000_4.length co104, .int .i64 x250001_4] 46 (0, 0))) := ⟨by rw [← hq_]; exact (bk_ BK249)⟩; have n5_ : Aside0 (Below w.heap.size w w105) := ⟨by rw [← hq_]; exact (bl3_ HB GE246 GE247 GE249)⟩; clear HO271 HO_250000 BK246 BK247 BK249 HB hq_; have HO271 := n0_; have HO_250000 := n1_; have BK246 := n2_; have BK247 := n3_; have BK249 := n4_; have HB := n5_; clear n0_ n1_ n2_ n3_ n4_ n5_)); refine cz2_ BK247.out ?_; intro hcz107_0 hcz107_1 hfz107_0 hfz107_1))
      refine bodyPost_ret (results_ct rfl _ _ gb247 46 #[.slice none 0 0, .int .i64 0] (0, 0) _ rfl (by (with_reducible repeat (first | refine blk_drewN ?_ _ | refine blk_drew ?_ | refine blk_alloc ?_ _)); refine blk_put (cs := #[.slice none 0 0, .int .i64 x248001_4]) ?_ 1 _ rfl; (with_reducible repeat (first | refine blk_drewN ?_ _ | refine blk_drew ?_ | refine blk_alloc ?_ _)); refine blk_put (cs := #[.slice none 0 0, .int .i64 x248001_4]) ?_ 0 _ rfl; (with_reducible repeat (first | refine blk_drewN ?_ _ | refine blk_drew ?_ | refine blk_alloc ?_ _)); exact BK247.out) Try.underlying46 rfl (by kernel_rfl)) rfl ?_
      exact ⟨_, er_, by first | exact Kd.R_nil _ _ _ _ _ | exact Kd.N_nil _ _ _ _ _ | exact Kd.V_nil _ _ _ _ _ | exact Kd.Q_nil _ _ _ _ _ | exact Kd.S_nil _ _ _ _ _, bl3_ HB GE246 GE247 GE249⟩
    ·rw [if_neg c86] at H
     have c86b0 : (t272 == 0) = false := beq_eq_false_iff_ne.mpr c86
     have c86b1 : (t272 != 0) = true := bne_iff_ne.mpr c86
     simp only [Option.some.injEq, Prod.mk.injEq] at H
     obtain ⟨rfl, rfl, rfl⟩ := H
     have hnb108 := NB246_247.out
     have hnc108 := NB247_246.out
     have hnb109 := NB246_249.out
     have hnc109 := NB249_246.out
     refine cz7_ BK246.out ?_; intro hcz110_0 hcz110_1 hcz110_2 hcz110_3 hcz110_4 hcz110_5 hcz110_6 hfz110_0 hfz110_1 hfz110_2 hfz110_3 hfz110_4 hfz110_5 hfz110_6
     have hnb111 := NB249_247.out
     have hnc111 := NB247_249.out
     refine cz2_ BK249.out ?_; intro hcz112_0 hcz112_1 hfz112_0 hfz112_1
     obtain ⟨Ao113, co113, eo113⟩ := Kd.R_slice HO_250000.out
     subst eo113
     go_wp2_with (first | ((with_reducible refine gate_callee (f := 50) rfl ?_); refine goesL_ (some 78) rfl rfl Try.func50 (by kernel_rfl) rfl #[.agg #[.int .i64 a0_0, .int .i64 a0_1, .int .i64 a0_2, .slice A0_3 l0_3.length c0_3, .int .i64 a0_4, .int .i64 a0_5, .int .i64 a0_6], .agg #[.slice Ao113 x250000_4.length co113, .int .i64 x250001_4]] rfl ar_ ?_; (with_reducible refine (pdu_AnswerBytes.calls kj4 a0_0 a0_1 a0_2 _ _ l0_3 a0_4 a0_5 a0_6 _ _ x250000_4 x250001_4 t269 t272 _ ?side1 ?side2 ?side3 ?side4 A85.out).mono ?_); (case side1 => exact sc_ (Kd.C_below HR0_3.out HB.out)); (case side2 => exact HC0_3.out); (case side3 => exact sc_ (Kd.R_reads' HO_250000.out).2.2); (case side4 => exact (Kd.R_reads' HO_250000.out).2.1); rintro e w114 ⟨v270, rfl, ho0, hb⟩; refine ⟨_, rfl, ?_⟩; have n0_ := Aside0.mk (Kd.R_below (kr_ HO_250000) hb); have n1_ := Aside0.mk (Kd.R_lower ho0 (below_size (bl3_ HB GE246 GE247 GE249))); have n2_ := Aside0.mk (blk_below (g := gb246) (bk_ BK246) hb); have n3_ := Aside0.mk (blk_below (g := gb247) (bk_ BK247) hb); have n4_ := Aside0.mk (blk_below (g := gb249) (bk_ BK249) hb); have n5_ := Aside0.mk (below_step (bl3_ HB GE246 GE247 GE249) hb); clear HO_250000; clear BK246; clear BK247; clear BK249; clear HB; have HO_250000 := n0_; have HO271 := n1_; have BK246 := n2_; have BK247 := n3_; have BK249 := n4_; have HB := n5_; clear n0_ n1_ n2_ n3_ n4_ n5_; (try clear hb); (try clear hb2); (try clear hk); (try clear hi); (try clear ho0); refine cz2_ BK247.out ?_; intro hcz115_0 hcz115_1 hfz115_0 hfz115_1))
     refine bodyPost_ret (results_ct rfl _ _ gb247 46 #[.slice none 0 0, .int .i64 0] (0, 0) _ rfl (by (with_reducible repeat (first | refine blk_drewN ?_ _ | refine blk_drew ?_ | refine blk_alloc ?_ _)); refine blk_put (cs := #[.slice none 0 0, .int .i64 x248001_4]) ?_ 1 _ rfl; (with_reducible repeat (first | refine blk_drewN ?_ _ | refine blk_drew ?_ | refine blk_alloc ?_ _)); refine blk_put (cs := #[.slice none 0 0, .int .i64 x248001_4]) ?_ 0 _ rfl; (with_reducible repeat (first | refine blk_drewN ?_ _ | refine blk_drew ?_ | refine blk_alloc ?_ _)); exact BK247.out) Try.underlying46 rfl (by kernel_rfl)) rfl ?_
     exact ⟨_, er_, by first | exact Kd.R_nil _ _ _ _ _ | exact Kd.N_nil _ _ _ _ _ | exact Kd.V_nil _ _ _ _ _ | exact Kd.Q_nil _ _ _ _ _ | exact Kd.S_nil _ _ _ _ _, bl3_ HB GE246 GE247 GE249⟩
 ·rw [if_neg c4] at H
  have c4b0 : (t248 == 0) = false := beq_eq_false_iff_ne.mpr c4
  have c4b1 : (t248 != 0) = true := bne_iff_ne.mpr c4
  simp only [Option.some.injEq, Prod.mk.injEq] at H
  obtain ⟨rfl, rfl, rfl⟩ := H
  go_enter Try.func35, Try.ntmps35
  go_wp2_with (first | ((with_reducible refine gate_dst (N := 2) rfl ?_); refine bx_ (N := 2) (cs := #[.int .i64 a0_0, .int .i64 a0_1, .int .i64 a0_2, .slice A0_3 l0_3.length c0_3, .int .i64 a0_4, .int .i64 a0_5, .int .i64 a0_6]) (t := 31) ?_; intro gb246 hg w116 hbox hb; have n0_ := Aside0.mk (below_step (bl0_ HB) hb); have n1_ := Aside0.mk (hbox); have n2_ := Aside0.mk ((by rw [hg]; exact (below_size (bl0_ HB)) : w.heap.size ≤ gb246)); have n3_ := Aside0.mk ((by rw [hg]; exact (below_size (bl0_ HB)) : w.heap.size ≤ gb246)); clear HB; have HB := n0_; have BK246 := n1_; have GW246 := n2_; have GE246 := n3_; clear n0_ n1_ n2_ n3_; clear hb hbox hg) | ((with_reducible refine gate_dst (N := 4) rfl ?_); refine bx_ (N := 4) (cs := #[.slice none 0 0, .int .i64 0]) (t := 46) ?_; intro gb247 hg w117 hbox hb; have n0_ := Aside0.mk (blk_below (g := gb246) (bk_ BK246) hb); have n1_ := Aside0.mk (below_step (bl1_ HB GE246) hb); have n2_ := Aside0.mk (hbox); have n3_ := Aside0.mk ((by rw [hg]; exact (below_size (bl1_ HB GE246)) : w.heap.size ≤ gb247)); have n4_ := Aside0.mk ((by rw [hg]; exact (below_size (bl1_ HB GE246)) : w.heap.size ≤ gb247)); have n5_ := Aside0.mk ((by rw [hg]; exact Nat.ne_of_lt (blk_lt (g := gb246) (bk_ BK246)) : gb246 ≠ gb247)); have n6_ := Aside0.mk ((by rw [hg]; exact Nat.ne_of_gt (blk_lt (g := gb246) (bk_ BK246)) : gb247 ≠ gb246)); clear BK246; clear HB; have BK246 := n0_; have HB := n1_; have BK247 := n2_; have GW247 := n3_; have GE247 := n4_; have NB246_247 := n5_; have NB247_246 := n6_; clear n0_ n1_ n2_ n3_ n4_ n5_ n6_; clear hb hbox hg; have hnb118 := NB246_247.out; have hnc118 := NB247_246.out; refine cz7_ BK246.out ?_; intro hcz119_0 hcz119_1 hcz119_2 hcz119_3 hcz119_4 hcz119_5 hcz119_6 hfz119_0 hfz119_1 hfz119_2 hfz119_3 hfz119_4 hfz119_5 hfz119_6) | ((with_reducible refine gate_callee (f := 29) rfl ?_); refine goesL_ (some 11) rfl rfl Try.func29 (by kernel_rfl) rfl #[.agg #[.int .i64 a0_0, .int .i64 a0_1, .int .i64 a0_2, .slice A0_3 l0_3.length c0_3, .int .i64 a0_4, .int .i64 a0_5, .int .i64 a0_6]] rfl ar_ ?_; (with_reducible refine (pdu_Check.calls a0_0 a0_1 a0_2 _ _ l0_3 a0_4 a0_5 a0_6 t248 _ ?side1 ?side2 A3.out).mono ?_); (case side1 => exact sc_ (Kd.C_below HR0_3.out HB.out)); (case side2 => exact HC0_3.out); rintro e w120 ⟨rfl, hb⟩; refine ⟨_, rfl, ?_⟩; have n0_ := Aside0.mk (blk_below (g := gb246) (bk_ BK246) hb); have n1_ := Aside0.mk (blk_below (g := gb247) (bk_ BK247) hb); have n2_ := Aside0.mk (below_step (bl2_ HB GE246 GE247) hb); clear BK246; clear BK247; clear HB; have BK246 := n0_; have BK247 := n1_; have HB := n2_; clear n0_ n1_ n2_; (try clear hb); (try clear hb2); (try clear hk); (try clear hi); refine cz2_ BK247.out ?_; intro hcz121_0 hcz121_1 hfz121_0 hfz121_1))
  refine bodyPost_ret (results_ct rfl _ _ gb247 46 #[.slice none 0 0, .int .i64 0] (0, 0) _ rfl (by (with_reducible repeat (first | refine blk_drewN ?_ _ | refine blk_drew ?_ | refine blk_alloc ?_ _)); refine blk_put (cs := #[.slice none 0 0, .int .i64 0]) ?_ 1 _ rfl; (with_reducible repeat (first | refine blk_drewN ?_ _ | refine blk_drew ?_ | refine blk_alloc ?_ _)); refine blk_put (cs := #[.slice none 0 0, .int .i64 0]) ?_ 0 _ rfl; (with_reducible repeat (first | refine blk_drewN ?_ _ | refine blk_drew ?_ | refine blk_alloc ?_ _)); exact BK247.out) Try.underlying46 rfl (by kernel_rfl)) rfl ?_
  exact ⟨_, er_, by first | exact Kd.R_nil _ _ _ _ _ | exact Kd.N_nil _ _ _ _ _ | exact Kd.V_nil _ _ _ _ _ | exact Kd.Q_nil _ _ _ _ _ | exact Kd.S_nil _ _ _ _ _, bl2_ HB GE246 GE247⟩
end Go.Proofs.Ytlalpooiegganaa.PG
end

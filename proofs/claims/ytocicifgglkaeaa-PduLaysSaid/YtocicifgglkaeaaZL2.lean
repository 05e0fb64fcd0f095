/- The words, contracts and walks that this claim leans on, put together by a program of this session (part 2). -/
import Derived.Test.YtocicifgglkaeaaZL1
section
namespace Go.Proofs.Ytocicifgglkaeaa.PQ
open Go.RowKit Go.Proofs.YtocicifgglkaeaaW.PrintWords Go.Proofs.YtocicifgglkaeaaW.PrintLast Go.Proofs.YtocicifgglkaeaaW.PrintMore
attribute [local go_sem] max2_int min2_int max_two min_two max_three min_three max_four min_four   
set_option linter.unusedVariables false
set_option linter.unusedSimpArgs false
open Go.Proofs.Ytocicifgglkaeaa.Ext Go.Proofs.Ytocicifgglkaeaa.PP Go.Proofs.Ytocicifgglkaeaa.ExtF
def pdu_counted.f (l0 : List Int) (l1 : List Int) : Option (List Int) := if l0.length < 140737488355328 then ((some (l0 ++ [((l1.length : Int)) % 256] : List Int)).bind fun y128 => (if y128.length + l1.length < 140737488355328 then (some (y128 ++ l1)) else (none))) else (none)
set_option maxHeartbeats 8000000 in
set_option maxRecDepth 100000 in
theorem pdu_counted.calls (P0_ : Nat → Prop) (u9000_ : Value) (l0 : List Int) (A1 : Option Addr) (c1 : Nat) (l1 : List Int) (r : List Int) (w0 w : World) (hB : Below w0.heap.size w0 w) (ho0 : Kd.R (Kd.int .u8) 5 w w0.heap.size P0_ u9000_ l0) (hr1 : ∀ W_, Kept w W_ (fun k_ => P0_ k_) → Kd.C (Kd.int .u8) W_ A1 l1.length l1) (hc1 : l1.length ≤ c1) (h : pdu_counted.f l0 l1 = some r) :
    Calls Try.prog 54 #[u9000_, .slice A1 l1.length c1] w fun e w' => ∃ v0_ : Value, e = .returned (v0_) ∧ Kd.R (Kd.int .u8) 5 w' w0.heap.size (fun k_ => (P0_ k_ ∨ w.heap.size ≤ k_)) v0_ r ∧ Below w0.heap.size w0 w' ∧ Kept w w' (fun k_ => P0_ k_) := by
  have HO0 := Aside0.mk (show Kd.R (Kd.int .u8) 5 w w0.heap.size (fun k_ => (P0_ k_ ∨ w.heap.size ≤ k_)) u9000_ l0 from Kd.R_mono ho0 (fun k_ hk => (.inl hk)))
  have HR1 := Aside0.mk hr1
  have HC1 := Aside0.mk hc1
  clear hr1 hc1
  have HK := Aside0.mk (Kept.refl w (fun k_ => P0_ k_))
  have HW0 := Aside0.mk hB.size
  have HB := Aside0.mk hB
  clear hB
  have H : (if l0.length < 140737488355328 then ((some (l0 ++ [((l1.length : Int)) % 256] : List Int)).bind fun y128 => (if y128.length + l1.length < 140737488355328 then (some (y128 ++ l1)) else (none))) else (none)) = some r := h
  clear h
  by_cases c3 : l0.length < 140737488355328
  · rw [if_pos c3] at H
    have LMc3 := Aside0.mk c3
    clear c3
    obtain ⟨y128, hy128⟩ : ∃ y_ : List Int, y_ = (l0 ++ [((l1.length : Int)) % 256]) := ⟨_, rfl⟩
    replace H : (if y128.length + l1.length < 140737488355328 then (some (y128 ++ l1)) else (none)) = some r := by first | (rw [hy128]; with_reducible exact H) | (have H2_ := (Option.bind_some _ _).symm.trans H; rw [hy128]; with_reducible exact H2_) | (have H2_ := (Option.bind_some _ _).symm.trans H; with_reducible exact H2_) | with_reducible exact H | (rw [hy128]; exact H) | exact H
    have Ny128 := Aside0.mk hy128
    clear hy128
    by_cases c4 : y128.length + l1.length < 140737488355328
    · rw [if_pos c4] at H
      have LMc4 := Aside0.mk c4
      clear c4
      obtain ⟨y131, hy131⟩ : ∃ y_ : List Int, y_ = (y128 ++ l1) := ⟨_, rfl⟩
      replace H : (some y131) = some r := by first | (rw [hy131]; with_reducible exact H) | (have H2_ := (Option.bind_some _ _).symm.trans H; rw [hy131]; with_reducible exact H2_) | (have H2_ := (Option.bind_some _ _).symm.trans H; with_reducible exact H2_) | with_reducible exact H | (rw [hy131]; exact H) | exact H
      have Ny131 := Aside0.mk hy131
      clear hy131
      obtain rfl := Option.some.inj H
      go_enter Try.func54, Try.ntmps54
      go_wp2_with (first | ((with_reducible refine gate_builtin (b := .append) (xs := #[.tmp 5, .tmp 9]) rfl ?_); at_builtin; refine Kd.R_append (Kd.int .u8) (w0 := w0) w0.heap.size rfl (.tmp 5) (.tmp 9) 58 5 (.int .u8 0) 1 rfl Try.underlying58 info5 rfl (by decide) (by omega) u9000_ l0 (((l1.length : Int)) % 256) [.int .u8 (((l1.length : Int)) % 256)] (fun k_ => (P0_ k_ ∨ w.heap.size ≤ k_)) (fun _ => False) rfl rfl ?aP (fun _ hk => hk.elim) ?aF ?aO ?aB ?aS ?aL ?_; (case aP => exact rfl); (case aB => exact (bl0_ HB)); (case aF => exact (fun k_ hk => (.inr (Nat.le_trans (by first | exact HK.out.1 | exact (show Kept w _ (fun k_ => P0_ k_) from by repeat (first | (with_reducible first | exact HK.out | apply Kept.alloc | apply Kept.drewN | apply Kept.drew) | exact HK.out)).1) hk)))); (case aO => exact (kr_ HO0)); (case aS => exact (below_size (bl0_ HB))); (case aL => have := LMc3.out; omega); intro v129 w5 ho hb hg hat; rw [← Ny128.out] at ho; have n0_ := Aside0.mk (hb); have n1_ := Aside0.mk (Kept.of_grown (S := (fun k_ => P0_ k_)) hg (by repeat (first | (with_reducible first | exact HK.out | apply Kept.alloc | apply Kept.drewN | apply Kept.drew) | exact HK.out)) (fun k_ e_ => (HO0.out.1 k_ e_))); have n2_ := Aside0.mk (ho); clear HB; clear HK; clear HO0; have HB := n0_; have HK := n1_; have HO130 := n2_; clear n0_ n1_ n2_; clear ho hb hg hat) | ((with_reducible refine gate_builtin (b := .append) (xs := #[.tmp 10, .tmp 11]) rfl ?_); at_builtin; refine Kd.R_append_rows (Kd.int .u8) (w0 := w0) w0.heap.size rfl (.tmp 10) (.tmp 11) 58 5 (.int .u8 0) 1 rfl Try.underlying58 info5 rfl (by decide) (by omega) v129 y128 l1 _ _ _ (fun k_ => (P0_ k_ ∨ w.heap.size ≤ k_)) (fun _ => False) rfl rfl ?aO ?aR (fun _ _ h => h) (fun _ h => h.elim) ?aF ?aB ?aS ?aL ?_; (case aR => exact Kd.C_kept_now HR1.out (by repeat (first | (with_reducible first | exact HK.out | apply Kept.alloc | apply Kept.drewN | apply Kept.drew) | exact HK.out))); (case aB => exact (bl0_ HB)); (case aF => exact (fun k_ hk => (.inr (Nat.le_trans (by first | exact HK.out.1 | exact (show Kept w _ (fun k_ => P0_ k_) from by repeat (first | (with_reducible first | exact HK.out | apply Kept.alloc | apply Kept.drewN | apply Kept.drew) | exact HK.out)).1) hk)))); (case aO => exact (kr_ HO130)); (case aS => exact (below_size (bl0_ HB))); (case aL => have := LMc4.out; omega); intro v132 w6 ho hb hg hat; rw [← Ny131.out] at ho; have n0_ := Aside0.mk (hb); have n1_ := Aside0.mk (Kept.of_grown (S := (fun k_ => P0_ k_)) hg (by repeat (first | (with_reducible first | exact HK.out | apply Kept.alloc | apply Kept.drewN | apply Kept.drew) | exact HK.out)) (fun k_ e_ => (HO130.out.1 k_ e_))); have n2_ := Aside0.mk (ho); clear HB; clear HK; clear HO130; have HB := n0_; have HK := n1_; have HO133 := n2_; clear n0_ n1_ n2_; clear ho hb hg hat))
      go_ret
      exact ⟨_, by first | rfl | (simp [errW_none, errW_some] <;> rfl) | (simp [*, errW_none, errW_some] <;> rfl), kr_ HO133, bl0_ HB, by repeat (first | (with_reducible first | exact HK.out | apply Kept.alloc | apply Kept.drewN | apply Kept.drew) | exact HK.out)⟩
    · rw [if_neg c4] at H
      exact absurd H (by simp)
  · rw [if_neg c3] at H
    exact absurd H (by simp)
def pdu_packed.f (k : Nat) (l0 : List Int) : Option (List Int) := (wire_Pack.f k l0).bind fun bt134 => (some bt134.1)
theorem pdu_packed.mono : ∀ a0 k, LeO (pdu_packed.f k a0) (pdu_packed.f (k + 1) a0) := by
  intro a0 k
  unfold pdu_packed.f
  repeat' first
      | (with_reducible exact wire_Pack.mono _ _)
      | (with_reducible exact LeO.refl _)
      | (with_reducible exact LeO.none _)
      | (with_reducible refine LeO.ite ?_ ?_)
      | (with_reducible refine LeO.bind ?_ (fun _ => ?_))
      | exact wire_Pack.mono _ _
      | exact LeO.none _
      | refine LeO.ite ?_ ?_
      | refine LeO.bind ?_ (fun _ => ?_)
set_option maxHeartbeats 8000000 in
set_option maxRecDepth 100000 in
theorem pdu_packed.calls (k : Nat) (A0 : Option Addr) (c0 : Nat) (l0 : List Int) (r : List Int) (w : World) (hr0 : Kd.C (Kd.int .i64) w A0 l0.length l0) (hc0 : l0.length ≤ c0) (h : pdu_packed.f k l0 = some r) :
    Calls Try.prog 55 #[.slice A0 l0.length c0] w fun e w' => ∃ v0_ : Value, e = .returned (v0_) ∧ Kd.R (Kd.int .u8) 5 w' w.heap.size (fun _ => True) v0_ r ∧ Below w.heap.size w w' := by
  have HR0 := Aside0.mk hr0
  have HC0 := Aside0.mk hc0
  clear hr0 hc0
  have HB := Aside0.mk (Below.refl w.heap.size w)
  have H : ((wire_Pack.f k l0).bind fun bt134 => (some bt134.1)) = some r := h
  clear h
  replace H := Option.bind_eq_some_iff.mp H
  obtain ⟨⟨t134, t135⟩, A20, H⟩ := H
  replace H : (some t134) = some r := H
  have A2 := Aside0.mk A20
  clear A20
  obtain rfl := Option.some.inj H
  go_enter Try.func55, Try.ntmps55
  go_wp2_with (first | ((with_reducible refine gate_callee (f := 70) rfl ?_); refine goesL_ (some 7) rfl rfl Try.func70 (by kernel_rfl) rfl #[.slice A0 l0.length c0] rfl ar_ ?_; (with_reducible refine (wire_Pack.calls k _ _ l0 t134 t135 _ ?side1 ?side2 A2.out).mono ?_); (case side1 => repeat (first | exact HR0.out | (with_reducible refine Kd.C_alloc ?_ _) | (with_reducible refine Kd.C_drewN ?_ _) | (with_reducible refine Kd.C_drew ?_))); (case side2 => exact HC0.out); rintro e w3 ⟨v136, rfl, ho0, hb⟩; refine ⟨_, rfl, ?_⟩; have n0_ := Aside0.mk (Kd.R_lower ho0 (below_size (bl0_ HB))); have n1_ := Aside0.mk (below_step (bl0_ HB) hb); clear HB; have HO137 := n0_; have HB := n1_; clear n0_ n1_; (try clear hb); (try clear hb2); (try clear hk); (try clear hi); (try clear ho0)))
  go_ret
  exact ⟨_, by first | rfl | (simp [errW_none, errW_some] <;> rfl) | (simp [*, errW_none, errW_some] <;> rfl), kr_ HO137, bl0_ HB⟩
def pdu_Bytes.f (k : Nat) (a0_0 : Int) (a0_1 : Int) (a0_2 : Int) (l0_3 : List Int) (a0_4 : Int) (a0_5 : Int) (a0_6 : Int) : Option (List Int × Int) := (pdu_Check.f k a0_0 a0_1 a0_2 l0_3 a0_4 a0_5 a0_6).bind fun t139 => (if t139 = 0 then ((pdu_lay.f (([(a0_0) % 256] : List Int)) (([a0_1] : List Int))).bind fun t146 => (if a0_0 = 5 then (if 0 < (l0_3.length : Int) then ((pdu_lay.f t146 (([wrap64 (65280 * (rd l0_3 0))] : List Int))).bind fun t153 => (some (t153, 0))) else (none)) else (if a0_0 = 6 then (if 0 < (l0_3.length : Int) then ((pdu_lay.f t146 (([rd l0_3 0] : List Int))).bind fun t160 => (some (t160, 0))) else (none)) else (if a0_0 = 22 then ((pdu_lay.f t146 (([a0_5, a0_6] : List Int))).bind fun t166 => (some (t166, 0))) else (if a0_0 = 15 then ((pdu_lay.f t146 (([a0_2] : List Int))).bind fun t172 => ((pdu_packed.f k l0_3).bind fun t175 => ((pdu_counted.f t172 t175).bind fun t178 => (some (t178, 0))))) else (if a0_0 = 23 then ((pdu_lay.f t146 (([a0_2, a0_4, (l0_3.length : Int)] : List Int))).bind fun t184 => ((pdu_lay.f ([] : List Int) l0_3).bind fun t187 => ((pdu_counted.f t184 t187).bind fun t190 => (some (t190, 0))))) else (if a0_0 = 16 then ((pdu_lay.f t146 (([a0_2] : List Int))).bind fun t196 => ((pdu_lay.f ([] : List Int) l0_3).bind fun t199 => ((pdu_counted.f t196 t199).bind fun t202 => (some (t202, 0))))) else ((pdu_lay.f t146 (([a0_2] : List Int))).bind fun t208 => (some (t208, 0)))))))))) else (some (([] : List Int), t139)))
theorem pdu_Bytes.mono : ∀ a0 a1 a2 a3 a4 a5 a6 k, LeO (pdu_Bytes.f k a0 a1 a2 a3 a4 a5 a6) (pdu_Bytes.f (k + 1) a0 a1 a2 a3 a4 a5 a6) := by
  intro a0 a1 a2 a3 a4 a5 a6 k
  unfold pdu_Bytes.f
  repeat' first
      | (with_reducible exact pdu_Check.mono _ _ _ _ _ _ _ _)
      | (with_reducible exact pdu_packed.mono _ _)
      | (with_reducible exact LeO.refl _)
      | (with_reducible exact LeO.none _)
      | (with_reducible refine LeO.ite ?_ ?_)
      | (with_reducible refine LeO.bind ?_ (fun _ => ?_))
      | exact pdu_Check.mono _ _ _ _ _ _ _ _
      | exact pdu_packed.mono _ _
      | exact LeO.none _
      | refine LeO.ite ?_ ?_
      | refine LeO.bind ?_ (fun _ => ?_)
def pdu_Bytes.T14 : Bool × List (List Nat × List Nat) := (true, [([], []), ([], []), ([1], [1]), ([2], [2]), ([0, 3], [0, 3]), ([], []), ([5], [5]), ([6, 4], [6]), ([4, 7, 7], [4, 7]), ([8, 8, 0, 1, 2, 3, 4, 5, 6, 7, 8], [0, 8])])
def pdu_Bytes.B14 : List Nat := [0, 0, 2, 6, 15, 0, 32, 127, 255, 511]
theorem pdu_Bytes.tab14 : rtab .any (opsOf Try.f30 14) = pdu_Bytes.T14 := by kernel_rfl
theorem pdu_Bytes.bits14 : waitsOk pdu_Bytes.T14.2 pdu_Bytes.B14 = true := by kernel_rfl
def pdu_Bytes.T19 : Bool × List (List Nat × List Nat) := (true, [([], []), ([], []), ([1], [1]), ([2], [2]), ([0, 3], [0, 3]), ([], []), ([5], [5]), ([6, 4], [6]), ([4, 7, 7], [4, 7]), ([8, 8, 0, 1, 2, 3, 4, 5, 6, 7, 8], [0, 8])])
def pdu_Bytes.B19 : List Nat := [0, 0, 2, 6, 15, 0, 32, 127, 255, 511]
theorem pdu_Bytes.tab19 : rtab .any (opsOf Try.f30 19) = pdu_Bytes.T19 := by kernel_rfl
theorem pdu_Bytes.bits19 : waitsOk pdu_Bytes.T19.2 pdu_Bytes.B19 = true := by kernel_rfl
set_option maxHeartbeats 8000000 in
set_option maxRecDepth 100000 in
theorem pdu_Bytes.calls (k : Nat) (a0_0 : Int) (a0_1 : Int) (a0_2 : Int) (A0_3 : Option Addr) (c0_3 : Nat) (l0_3 : List Int) (a0_4 : Int) (a0_5 : Int) (a0_6 : Int) (r1 : List Int) (r2 : Int) (w : World) (hr0_3 : Kd.C (Kd.int .i64) w A0_3 l0_3.length l0_3) (hc0_3 : l0_3.length ≤ c0_3) (h : pdu_Bytes.f k a0_0 a0_1 a0_2 l0_3 a0_4 a0_5 a0_6 = some (r1, r2)) :
    Calls Try.prog 30 #[.agg #[.int .i64 a0_0, .int .i64 a0_1, .int .i64 a0_2, .slice A0_3 l0_3.length c0_3, .int .i64 a0_4, .int .i64 a0_5, .int .i64 a0_6]] w fun e w' => ∃ v0_ : Value, e = .returned (.tuple #[v0_, .int .i64 r2]) ∧ Kd.R (Kd.int .u8) 5 w' w.heap.size (fun _ => True) v0_ r1 ∧ Below w.heap.size w w' := by
  have hu24 := Try.underlying24
  have HR0_3 := Aside0.mk hr0_3
  have HC0_3 := Aside0.mk hc0_3
  clear hr0_3 hc0_3
  have HB := Aside0.mk (Below.refl w.heap.size w)
  have H : ((pdu_Check.f k a0_0 a0_1 a0_2 l0_3 a0_4 a0_5 a0_6).bind fun t139 => (if t139 = 0 then ((pdu_lay.f (([(a0_0) % 256] : List Int)) (([a0_1] : List Int))).bind fun t146 => (if a0_0 = 5 then (if 0 < (l0_3.length : Int) then ((pdu_lay.f t146 (([wrap64 (65280 * (rd l0_3 0))] : List Int))).bind fun t153 => (some (t153, 0))) else (none)) else (if a0_0 = 6 then (if 0 < (l0_3.length : Int) then ((pdu_lay.f t146 (([rd l0_3 0] : List Int))).bind fun t160 => (some (t160, 0))) else (none)) else (if a0_0 = 22 then ((pdu_lay.f t146 (([a0_5, a0_6] : List Int))).bind fun t166 => (some (t166, 0))) else (if a0_0 = 15 then ((pdu_lay.f t146 (([a0_2] : List Int))).bind fun t172 => ((pdu_packed.f k l0_3).bind fun t175 => ((pdu_counted.f t172 t175).bind fun t178 => (some (t178, 0))))) else (if a0_0 = 23 then ((pdu_lay.f t146 (([a0_2, a0_4, (l0_3.length : Int)] : List Int))).bind fun t184 => ((pdu_lay.f ([] : List Int) l0_3).bind fun t187 => ((pdu_counted.f t184 t187).bind fun t190 => (some (t190, 0))))) else (if a0_0 = 16 then ((pdu_lay.f t146 (([a0_2] : List Int))).bind fun t196 => ((pdu_lay.f ([] : List Int) l0_3).bind fun t199 => ((pdu_counted.f t196 t199).bind fun t202 => (some (t202, 0))))) else ((pdu_lay.f t146 (([a0_2] : List Int))).bind fun t208 => (some (t208, 0)))))))))) else (some (([] : List Int), t139)))) = some (r1, r2) := h
  clear h
  replace H := Option.bind_eq_some_iff.mp H
  obtain ⟨t139, A20, H⟩ := H
  replace H : (if t139 = 0 then ((pdu_lay.f (([(a0_0) % 256] : List Int)) (([a0_1] : List Int))).bind fun t146 => (if a0_0 = 5 then (if 0 < (l0_3.length : Int) then ((pdu_lay.f t146 (([wrap64 (65280 * (rd l0_3 0))] : List Int))).bind fun t153 => (some (t153, 0))) else (none)) else (if a0_0 = 6 then (if 0 < (l0_3.length : Int) then ((pdu_lay.f t146 (([rd l0_3 0] : List Int))).bind fun t160 => (some (t160, 0))) else (none)) else (if a0_0 = 22 then ((pdu_lay.f t146 (([a0_5, a0_6] : List Int))).bind fun t166 => (some (t166, 0))) else (if a0_0 = 15 then ((pdu_lay.f t146 (([a0_2] : List Int))).bind fun t172 => ((pdu_packed.f k l0_3).bind fun t175 => ((pdu_counted.f t172 t175).bind fun t178 => (some (t178, 0))))) else (if a0_0 = 23 then ((pdu_lay.f t146 (([a0_2, a0_4, (l0_3.length : Int)] : List Int))).bind fun t184 => ((pdu_lay.f ([] : List Int) l0_3).bind fun t187 => ((pdu_counted.f t184 t187).bind fun t190 => (some (t190, 0))))) else (if a0_0 = 16 then ((pdu_lay.f t146 (([a0_2] : List Int))).bind fun t196 => ((pdu_lay.f ([] : List Int) l0_3).bind fun t199 => ((pdu_counted.f t196 t199).bind fun t202 => (some (t202, 0))))) else ((pdu_lay.f t146 (([a0_2] : List Int))).bind fun t208 => (some (t208, 0)))))))))) else (some (([] : List Int), t139))) = some (r1, r2) := H
  have A2 := Aside0.mk A20
  clear A20
  by_cases c3 : t139 = 0
  · rw [if_pos c3] at H
    have c3b0 : (t139 == 0) = true := beq_iff_eq.mpr c3
    have c3b1 : (t139 != 0) = false := bne_eq_false_iff_eq.mpr c3
    clear c3
    obtain ⟨y140, hy140⟩ : ∃ y_ : List Int, y_ = (([(a0_0) % 256] : List Int)) := ⟨_, rfl⟩
    replace H : ((pdu_lay.f y140 (([a0_1] : List Int))).bind fun t146 => (if a0_0 = 5 then (if 0 < (l0_3.length : Int) then ((pdu_lay.f t146 (([wrap64 (65280 * (rd l0_3 0))] : List Int))).bind fun t153 => (some (t153, 0))) else (none)) else (if a0_0 = 6 then (if 0 < (l0_3.length : Int) then ((pdu_lay.f t146 (([rd l0_3 0] : List Int))).bind fun t160 => (some (t160, 0))) else (none)) else (if a0_0 = 22 then ((pdu_lay.f t146 (([a0_5, a0_6] : List Int))).bind fun t166 => (some (t166, 0))) else (if a0_0 = 15 then ((pdu_lay.f t146 (([a0_2] : List Int))).bind fun t172 => ((pdu_packed.f k l0_3).bind fun t175 => ((pdu_counted.f t172 t175).bind fun t178 => (some (t178, 0))))) else (if a0_0 = 23 then ((pdu_lay.f t146 (([a0_2, a0_4, (l0_3.length : Int)] : List Int))).bind fun t184 => ((pdu_lay.f ([] : List Int) l0_3).bind fun t187 => ((pdu_counted.f t184 t187).bind fun t190 => (some (t190, 0))))) else (if a0_0 = 16 then ((pdu_lay.f t146 (([a0_2] : List Int))).bind fun t196 => ((pdu_lay.f ([] : List Int) l0_3).bind fun t199 => ((pdu_counted.f t196 t199).bind fun t202 => (some (t202, 0))))) else ((pdu_lay.f t146 (([a0_2] : List Int))).bind fun t208 => (some (t208, 0)))))))))) = some (r1, r2) := by first | (rw [hy140]; with_reducible exact H) | (have H2_ := (Option.bind_some _ _).symm.trans H; rw [hy140]; with_reducible exact H2_) | (have H2_ := (Option.bind_some _ _).symm.trans H; with_reducible exact H2_) | with_reducible exact H | (rw [hy140]; exact H) | exact H
    have Ny140 := Aside0.mk hy140
    clear hy140
    obtain ⟨y143, hy143⟩ : ∃ y_ : List Int, y_ = (([a0_1] : List Int)) := ⟨_, rfl⟩
    replace H : ((pdu_lay.f y140 y143).bind fun t146 => (if a0_0 = 5 then (if 0 < (l0_3.length : Int) then ((pdu_lay.f t146 (([wrap64 (65280 * (rd l0_3 0))] : List Int))).bind fun t153 => (some (t153, 0))) else (none)) else (if a0_0 = 6 then (if 0 < (l0_3.length : Int) then ((pdu_lay.f t146 (([rd l0_3 0] : List Int))).bind fun t160 => (some (t160, 0))) else (none)) else (if a0_0 = 22 then ((pdu_lay.f t146 (([a0_5, a0_6] : List Int))).bind fun t166 => (some (t166, 0))) else (if a0_0 = 15 then ((pdu_lay.f t146 (([a0_2] : List Int))).bind fun t172 => ((pdu_packed.f k l0_3).bind fun t175 => ((pdu_counted.f t172 t175).bind fun t178 => (some (t178, 0))))) else (if a0_0 = 23 then ((pdu_lay.f t146 (([a0_2, a0_4, (l0_3.length : Int)] : List Int))).bind fun t184 => ((pdu_lay.f ([] : List Int) l0_3).bind fun t187 => ((pdu_counted.f t184 t187).bind fun t190 => (some (t190, 0))))) else (if a0_0 = 16 then ((pdu_lay.f t146 (([a0_2] : List Int))).bind fun t196 => ((pdu_lay.f ([] : List Int) l0_3).bind fun t199 => ((pdu_counted.f t196 t199).bind fun t202 => (some (t202, 0))))) else ((pdu_lay.f t146 (([a0_2] : List Int))).bind fun t208 => (some (t208, 0)))))))))) = some (r1, r2) := by first | (rw [hy143]; with_reducible exact H) | (have H2_ := (Option.bind_some _ _).symm.trans H; rw [hy143]; with_reducible exact H2_) | (have H2_ := (Option.bind_some _ _).symm.trans H; with_reducible exact H2_) | with_reducible exact H | (rw [hy143]; exact H) | exact H
    have Ny143 := Aside0.mk hy143
    clear hy143
    replace H := Option.bind_eq_some_iff.mp H
    obtain ⟨t146, A40, H⟩ := H
    replace H : (if a0_0 = 5 then (if 0 < (l0_3.length : Int) then ((pdu_lay.f t146 (([wrap64 (65280 * (rd l0_3 0))] : List Int))).bind fun t153 => (some (t153, 0))) else (none)) else (if a0_0 = 6 then (if 0 < (l0_3.length : Int) then ((pdu_lay.f t146 (([rd l0_3 0] : List Int))).bind fun t160 => (some (t160, 0))) else (none)) else (if a0_0 = 22 then ((pdu_lay.f t146 (([a0_5, a0_6] : List Int))).bind fun t166 => (some (t166, 0))) else (if a0_0 = 15 then ((pdu_lay.f t146 (([a0_2] : List Int))).bind fun t172 => ((pdu_packed.f k l0_3).bind fun t175 => ((pdu_counted.f t172 t175).bind fun t178 => (some (t178, 0))))) else (if a0_0 = 23 then ((pdu_lay.f t146 (([a0_2, a0_4, (l0_3.length : Int)] : List Int))).bind fun t184 => ((pdu_lay.f ([] : List Int) l0_3).bind fun t187 => ((pdu_counted.f t184 t187).bind fun t190 => (some (t190, 0))))) else (if a0_0 = 16 then ((pdu_lay.f t146 (([a0_2] : List Int))).bind fun t196 => ((pdu_lay.f ([] : List Int) l0_3).bind fun t199 => ((pdu_counted.f t196 t199).bind fun t202 => (some (t202, 0))))) else ((pdu_lay.f t146 (([a0_2] : List Int))).bind fun t208 => (some (t208, 0))))))))) = some (r1, r2) := H
    have A4 := Aside0.mk A40
    clear A40
    by_cases c5 : a0_0 = 5
    · rw [if_pos c5] at H
      have c5b0 : (a0_0 == 5) = true := beq_iff_eq.mpr c5
      have c5b1 : (a0_0 != 5) = false := bne_eq_false_iff_eq.mpr c5
      clear c5
      by_cases c6 : 0 < (l0_3.length : Int)
      · rw [if_pos c6] at H
        have c6b0 : decide (0 < (l0_3.length : Int)) = true := decide_eq_true c6
        have c6b1 : decide (0 < l0_3.length) = true := decide_eq_true (by omega)
        clear c6
        obtain ⟨y150, hy150⟩ : ∃ y_ : List Int, y_ = (([wrap64 (65280 * (rd l0_3 0))] : List Int)) := ⟨_, rfl⟩
        replace H : ((pdu_lay.f t146 y150).bind fun t153 => (some (t153, 0))) = some (r1, r2) := by first | (rw [hy150]; with_reducible exact H) | (have H2_ := (Option.bind_some _ _).symm.trans H; rw [hy150]; with_reducible exact H2_) | (have H2_ := (Option.bind_some _ _).symm.trans H; with_reducible exact H2_) | with_reducible exact H | (rw [hy150]; exact H) | exact H
        have Ny150 := Aside0.mk hy150
        clear hy150
        replace H := Option.bind_eq_some_iff.mp H
        obtain ⟨t153, A70, H⟩ := H
        replace H : (some (t153, 0)) = some (r1, r2) := H
        have A7 := Aside0.mk A70
        clear A70
        simp only [Option.some.injEq, Prod.mk.injEq] at H
        obtain ⟨rfl, rfl⟩ := H
        go_enter Try.func30, Try.ntmps30
        go_wp2_with (first | ((with_reducible refine gate_dst (N := 1) rfl ?_); refine box_event ?hg (N := 1) ?hd (cs := #[.int .i64 a0_0, .int .i64 a0_1, .int .i64 a0_2, .slice A0_3 l0_3.length c0_3, .int .i64 a0_4, .int .i64 a0_5, .int .i64 a0_6]) (t := 24) ?hr ?_; (case hd => rfl); (case hg => rfl); (case hr => first | (go_simp; done) | (go_simp; rfl)); intro gb138 hg w8 hbox hb; have n0_ := Aside0.mk (below_step (bl0_ HB) hb); have n1_ := Aside0.mk (hbox); have n2_ := Aside0.mk ((by rw [hg]; exact (below_size (bl0_ HB)) : w.heap.size ≤ gb138)); have n3_ := Aside0.mk ((by rw [hg]; exact (below_size (bl0_ HB)) : w.heap.size ≤ gb138)); clear HB; have HB := n0_; have BK138 := n1_; have GW138 := n2_; have GE138 := n3_; clear n0_ n1_ n2_ n3_; clear hb hbox hg; have hcz9_0 : w8.cell? ⟨gb138, 0, none⟩ = some (.int .i64 a0_0) := (blk_cell BK138.out 0).trans rfl; have hcz9_1 : w8.cell? ⟨gb138, 1, none⟩ = some (.int .i64 a0_1) := (blk_cell BK138.out 1).trans rfl; have hcz9_2 : w8.cell? ⟨gb138, 2, none⟩ = some (.int .i64 a0_2) := (blk_cell BK138.out 2).trans rfl; have hcz9_3 : w8.cell? ⟨gb138, 3, none⟩ = some (.slice A0_3 l0_3.length c0_3) := (blk_cell BK138.out 3).trans rfl; have hcz9_4 : w8.cell? ⟨gb138, 4, none⟩ = some (.int .i64 a0_4) := (blk_cell BK138.out 4).trans rfl; have hcz9_5 : w8.cell? ⟨gb138, 5, none⟩ = some (.int .i64 a0_5) := (blk_cell BK138.out 5).trans rfl; have hcz9_6 : w8.cell? ⟨gb138, 6, none⟩ = some (.int .i64 a0_6) := (blk_cell BK138.out 6).trans rfl; have hfz9_0 := blk_frozen BK138.out 0; have hfz9_1 := blk_frozen BK138.out 1; have hfz9_2 := blk_frozen BK138.out 2; have hfz9_3 := blk_frozen BK138.out 3; have hfz9_4 := blk_frozen BK138.out 4; have hfz9_5 := blk_frozen BK138.out 5; have hfz9_6 := blk_frozen BK138.out 6) | ((with_reducible refine gate_callee (f := 29) rfl ?_); refine goesL_ (some 7) rfl rfl Try.func29 (by kernel_rfl) rfl #[.agg #[.int .i64 a0_0, .int .i64 a0_1, .int .i64 a0_2, .slice A0_3 l0_3.length c0_3, .int .i64 a0_4, .int .i64 a0_5, .int .i64 a0_6]] rfl ar_ ?_; (with_reducible refine (pdu_Check.calls k a0_0 a0_1 a0_2 _ _ l0_3 a0_4 a0_5 a0_6 t139 _ ?side1 ?side2 A2.out).mono ?_); (case side1 => repeat (first | exact (Kd.C_below HR0_3.out HB.out) | (with_reducible refine Kd.C_alloc ?_ _) | (with_reducible refine Kd.C_drewN ?_ _) | (with_reducible refine Kd.C_drew ?_))); (case side2 => exact HC0_3.out); rintro e w10 ⟨rfl, hb⟩; refine ⟨_, rfl, ?_⟩; have n0_ := Aside0.mk (blk_below (g := gb138) (o := .cells #[.int .i64 a0_0, .int .i64 a0_1, .int .i64 a0_2, .slice A0_3 l0_3.length c0_3, .int .i64 a0_4, .int .i64 a0_5, .int .i64 a0_6] 24 (0, 0)) (bk_ BK138) hb); have n1_ := Aside0.mk (below_step (bl1_ HB GE138) hb); clear BK138; clear HB; have BK138 := n0_; have HB := n1_; clear n0_ n1_; (try clear hb); (try clear hb2); (try clear hk); (try clear hi); have hcz11_0 : w10.cell? ⟨gb138, 0, none⟩ = some (.int .i64 a0_0) := (blk_cell BK138.out 0).trans rfl; have hcz11_1 : w10.cell? ⟨gb138, 1, none⟩ = some (.int .i64 a0_1) := (blk_cell BK138.out 1).trans rfl; have hcz11_2 : w10.cell? ⟨gb138, 2, none⟩ = some (.int .i64 a0_2) := (blk_cell BK138.out 2).trans rfl; have hcz11_3 : w10.cell? ⟨gb138, 3, none⟩ = some (.slice A0_3 l0_3.length c0_3) := (blk_cell BK138.out 3).trans rfl; have hcz11_4 : w10.cell? ⟨gb138, 4, none⟩ = some (.int .i64 a0_4) := (blk_cell BK138.out 4).trans rfl; have hcz11_5 : w10.cell? ⟨gb138, 5, none⟩ = some (.int .i64 a0_5) := (blk_cell BK138.out 5).trans rfl; have hcz11_6 : w10.cell? ⟨gb138, 6, none⟩ = some (.int .i64 a0_6) := (blk_cell BK138.out 6).trans rfl; have hfz11_0 := blk_frozen BK138.out 0; have hfz11_1 := blk_frozen BK138.out 1; have hfz11_2 := blk_frozen BK138.out 2; have hfz11_3 := blk_frozen BK138.out 3; have hfz11_4 := blk_frozen BK138.out 4; have hfz11_5 := blk_frozen BK138.out 5; have hfz11_6 := blk_frozen BK138.out 6) | ((with_reducible refine gate_dst (N := 14) rfl ?_); refine Kd.R_lit (Kd.int .u8) _ 5 ?hg (N := 14) ?hd (xs := ([(a0_0) % 256] : List Int)) (inner := [.int .u8 ((a0_0) % 256)]) (ok := fun _ => True) (okp := fun _ => True) ?hr ?hp (fun _ hk => hk) trivial (Below.refl _ _) (Nat.le_refl _) (by simp) ?_; (case hd => rfl); (case hg => rfl); (case hr => first | (go_simp; done) | (go_simp; rfl)); (case hp => exact (Reps.one (show Kd.M (Kd.int .u8) _ _ _ ((a0_0) % 256) [.int .u8 ((a0_0) % 256)] from rfl) (Reps.none _ _))); intro v141 w12 ho13 hb hg_ hnew_; clear hg_ hnew_; (first | rw [← Ny140.out] at ho13 | (simp only [Int.reduceToNat] at ho13; rw [← Ny140.out] at ho13)); have n0_ := Aside0.mk (Kd.R_lower ho13 (below_size (bl1_ HB GE138))); have n1_ := Aside0.mk (blk_below (g := gb138) (o := .cells #[.int .i64 a0_0, .int .i64 a0_1, .int .i64 a0_2, .slice A0_3 l0_3.length c0_3, .int .i64 a0_4, .int .i64 a0_5, .int .i64 a0_6] 24 (0, 0)) (bk_ BK138) hb); have n2_ := Aside0.mk (below_step (bl1_ HB GE138) hb); clear BK138; clear HB; have HO142 := n0_; have BK138 := n1_; have HB := n2_; clear n0_ n1_ n2_; clear hb ho13; have hcz14_0 : w12.cell? ⟨gb138, 0, none⟩ = some (.int .i64 a0_0) := (blk_cell BK138.out 0).trans rfl; have hcz14_1 : w12.cell? ⟨gb138, 1, none⟩ = some (.int .i64 a0_1) := (blk_cell BK138.out 1).trans rfl; have hcz14_2 : w12.cell? ⟨gb138, 2, none⟩ = some (.int .i64 a0_2) := (blk_cell BK138.out 2).trans rfl; have hcz14_3 : w12.cell? ⟨gb138, 3, none⟩ = some (.slice A0_3 l0_3.length c0_3) := (blk_cell BK138.out 3).trans rfl; have hcz14_4 : w12.cell? ⟨gb138, 4, none⟩ = some (.int .i64 a0_4) := (blk_cell BK138.out 4).trans rfl; have hcz14_5 : w12.cell? ⟨gb138, 5, none⟩ = some (.int .i64 a0_5) := (blk_cell BK138.out 5).trans rfl; have hcz14_6 : w12.cell? ⟨gb138, 6, none⟩ = some (.int .i64 a0_6) := (blk_cell BK138.out 6).trans rfl; have hfz14_0 := blk_frozen BK138.out 0; have hfz14_1 := blk_frozen BK138.out 1; have hfz14_2 := blk_frozen BK138.out 2; have hfz14_3 := blk_frozen BK138.out 3; have hfz14_4 := blk_frozen BK138.out 4; have hfz14_5 := blk_frozen BK138.out 5; have hfz14_6 := blk_frozen BK138.out 6) | ((with_reducible refine gate_dst (N := 17) rfl ?_); refine Kd.R_lit (Kd.int .i64) _ 3 ?hg (N := 17) ?hd (xs := ([a0_1] : List Int)) (inner := [.int .i64 a0_1]) (ok := fun _ => True) (okp := fun _ => True) ?hr ?hp (fun _ hk => hk) trivial (Below.refl _ _) (Nat.le_refl _) (by simp) ?_; (case hd => rfl); (case hg => rfl); (case hr => first | (go_simp; done) | (go_simp; rfl)); (case hp => exact (Reps.one (show Kd.M (Kd.int .i64) _ _ _ a0_1 [.int .i64 a0_1] from rfl) (Reps.none _ _))); intro v144 w15 ho16 hb hg_ hnew_; clear hg_ hnew_; (first | rw [← Ny143.out] at ho16 | (simp only [Int.reduceToNat] at ho16; rw [← Ny143.out] at ho16)); have n0_ := Aside0.mk (Kd.R_below (kr_ HO142) hb); have n1_ := Aside0.mk (Kd.R_lower ho16 (below_size (bl1_ HB GE138))); have n2_ := Aside0.mk (blk_below (g := gb138) (o := .cells #[.int .i64 a0_0, .int .i64 a0_1, .int .i64 a0_2, .slice A0_3 l0_3.length c0_3, .int .i64 a0_4, .int .i64 a0_5, .int .i64 a0_6] 24 (0, 0)) (bk_ BK138) hb); have n3_ := Aside0.mk (below_step (bl1_ HB GE138) hb); clear HO142; clear BK138; clear HB; have HO142 := n0_; have HO145 := n1_; have BK138 := n2_; have HB := n3_; clear n0_ n1_ n2_ n3_; clear hb ho16; obtain ⟨Ao17, co17, eo17⟩ := Kd.R_slice HO142.out; subst eo17; obtain ⟨Ao18, co18, eo18⟩ := Kd.R_slice HO145.out; subst eo18) | ((with_reducible refine gate_callee (f := 53) rfl ?_); refine goesL_ (some 18) rfl rfl Try.func53 (by kernel_rfl) rfl #[.slice Ao17 y140.length co17, .slice Ao18 y143.length co18] rfl ar_ ?_; (with_reducible refine (pdu_lay.calls _ _ y140 _ _ y143 t146 _ ?side1 ?side2 ?side3 ?side4 A4.out).mono ?_); (case side1 => repeat (first | exact (Kd.R_reads' HO142.out).2.2 | (with_reducible refine Kd.C_alloc ?_ _) | (with_reducible refine Kd.C_drewN ?_ _) | (with_reducible refine Kd.C_drew ?_))); (case side2 => exact (Kd.R_reads' HO142.out).2.1); (case side3 => repeat (first | exact (Kd.R_reads' HO145.out).2.2 | (with_reducible refine Kd.C_alloc ?_ _) | (with_reducible refine Kd.C_drewN ?_ _) | (with_reducible refine Kd.C_drew ?_))); (case side4 => exact (Kd.R_reads' HO145.out).2.1); rintro e w19 ⟨v147, rfl, ho0, hb⟩; refine ⟨_, rfl, ?_⟩; have n0_ := Aside0.mk (Kd.R_elder' (kr_ HO142) (Kd.R_base ho0) hb); have n1_ := Aside0.mk (Kd.R_below (kr_ HO145) hb); have n2_ := Aside0.mk (Kd.R_lower (Kd.R_new' ho0 (Kd.R_lt (kr_ HO142))) (below_size (bl1_ HB GE138))); have n3_ := Aside0.mk (blk_below (g := gb138) (o := .cells #[.int .i64 a0_0, .int .i64 a0_1, .int .i64 a0_2, .slice A0_3 l0_3.length c0_3, .int .i64 a0_4, .int .i64 a0_5, .int .i64 a0_6] 24 (0, 0)) (bk_ BK138) hb); have n4_ := Aside0.mk (below_step (bl1_ HB GE138) hb); clear HO142; clear HO145; clear BK138; clear HB; have HO142 := n0_; have HO145 := n1_; have HO148 := n2_; have BK138 := n3_; have HB := n4_; clear n0_ n1_ n2_ n3_ n4_; (try clear hb); (try clear hb2); (try clear hk); (try clear hi); (try clear ho0); have hcz20_0 : w19.cell? ⟨gb138, 0, none⟩ = some (.int .i64 a0_0) := (blk_cell BK138.out 0).trans rfl; have hcz20_1 : w19.cell? ⟨gb138, 1, none⟩ = some (.int .i64 a0_1) := (blk_cell BK138.out 1).trans rfl; have hcz20_2 : w19.cell? ⟨gb138, 2, none⟩ = some (.int .i64 a0_2) := (blk_cell BK138.out 2).trans rfl; have hcz20_3 : w19.cell? ⟨gb138, 3, none⟩ = some (.slice A0_3 l0_3.length c0_3) := (blk_cell BK138.out 3).trans rfl; have hcz20_4 : w19.cell? ⟨gb138, 4, none⟩ = some (.int .i64 a0_4) := (blk_cell BK138.out 4).trans rfl; have hcz20_5 : w19.cell? ⟨gb138, 5, none⟩ = some (.int .i64 a0_5) := (blk_cell BK138.out 5).trans rfl; have hcz20_6 : w19.cell? ⟨gb138, 6, none⟩ = some (.int .i64 a0_6) := (blk_cell BK138.out 6).trans rfl; have hfz20_0 := blk_frozen BK138.out 0; have hfz20_1 := blk_frozen BK138.out 1; have hfz20_2 := blk_frozen BK138.out 2; have hfz20_3 := blk_frozen BK138.out 3; have hfz20_4 := blk_frozen BK138.out 4; have hfz20_5 := blk_frozen BK138.out 5; have hfz20_6 := blk_frozen BK138.out 6; have p149 : 0 ≤ (0 : Int) := (by omega); have q149 : 0 < (l0_3.length : Int) := of_decide_eq_true (by first | (with_reducible assumption) | assumption); obtain ⟨ad149, e149, hx149_0⟩ := Kd.at_int HR0_3.out 0 p149 q149; cases e149; have qi149 : (0 < l0_3.length) = True := eq_true (by omega); (try rw [show ((0 : Int)).toNat = 0 from rfl] at hx149_0); (try rw [Addr.add_zero'] at hx149_0); replace hx149_0 := (HB.out.cell (World.block_lt_of_cell? w _ hx149_0)).trans hx149_0; replace p149 := eq_true p149; replace q149 := eq_true q149) | ((with_reducible refine gate_dst (N := 34) rfl ?_); refine Kd.R_lit (Kd.int .i64) _ 3 ?hg (N := 34) ?hd (xs := ([wrap64 (65280 * (rd l0_3 0))] : List Int)) (inner := [.int .i64 (wrap64 (65280 * (rd l0_3 0)))]) (ok := fun _ => True) (okp := fun _ => True) ?hr ?hp (fun _ hk => hk) trivial (Below.refl _ _) (Nat.le_refl _) (by simp) ?_; (case hd => rfl); (case hg => rfl); (case hr => first | (go_simp; done) | (go_simp; rfl)); (case hp => exact (Reps.one (show Kd.M (Kd.int .i64) _ _ _ (wrap64 (65280 * (rd l0_3 0))) [.int .i64 (wrap64 (65280 * (rd l0_3 0)))] from rfl) (Reps.none _ _))); intro v151 w21 ho22 hb hg_ hnew_; clear hg_ hnew_; (first | rw [← Ny150.out] at ho22 | (simp only [Int.reduceToNat] at ho22; rw [← Ny150.out] at ho22)); have n0_ := Aside0.mk (Kd.R_below (kr_ HO142) hb); have n1_ := Aside0.mk (Kd.R_elder' (kr_ HO145) (Kd.R_base ho22) hb); have n2_ := Aside0.mk (Kd.R_below (kr_ HO148) hb); have n3_ := Aside0.mk (Kd.R_lower (Kd.R_new' ho22 (Kd.R_lt (kr_ HO145))) (below_size (bl1_ HB GE138))); have n4_ := Aside0.mk (blk_below (g := gb138) (o := .cells #[.int .i64 a0_0, .int .i64 a0_1, .int .i64 a0_2, .slice (some ad149) l0_3.length c0_3, .int .i64 a0_4, .int .i64 a0_5, .int .i64 a0_6] 24 (0, 0)) (bk_ BK138) hb); have n5_ := Aside0.mk (below_step (bl1_ HB GE138) hb); clear HO142; clear HO145; clear HO148; clear BK138; clear HB; have HO142 := n0_; have HO145 := n1_; have HO148 := n2_; have HO152 := n3_; have BK138 := n4_; have HB := n5_; clear n0_ n1_ n2_ n3_ n4_ n5_; clear hb ho22; obtain ⟨Ao23, co23, eo23⟩ := Kd.R_slice HO148.out; subst eo23; obtain ⟨Ao24, co24, eo24⟩ := Kd.R_slice HO152.out; subst eo24) | ((with_reducible refine gate_callee (f := 53) rfl ?_); refine goesL_ (some 35) rfl rfl Try.func53 (by kernel_rfl) rfl #[.slice Ao23 t146.length co23, .slice Ao24 y150.length co24] rfl ar_ ?_; (with_reducible refine (pdu_lay.calls _ _ t146 _ _ y150 t153 _ ?side1 ?side2 ?side3 ?side4 A7.out).mono ?_); (case side1 => repeat (first | exact (Kd.R_reads' HO148.out).2.2 | (with_reducible refine Kd.C_alloc ?_ _) | (with_reducible refine Kd.C_drewN ?_ _) | (with_reducible refine Kd.C_drew ?_))); (case side2 => exact (Kd.R_reads' HO148.out).2.1); (case side3 => repeat (first | exact (Kd.R_reads' HO152.out).2.2 | (with_reducible refine Kd.C_alloc ?_ _) | (with_reducible refine Kd.C_drewN ?_ _) | (with_reducible refine Kd.C_drew ?_))); (case side4 => exact (Kd.R_reads' HO152.out).2.1); rintro e w25 ⟨v154, rfl, ho0, hb⟩; refine ⟨_, rfl, ?_⟩; have n0_ := Aside0.mk (Kd.R_elder' (kr_ HO142) (Kd.R_base ho0) hb); have n1_ := Aside0.mk (Kd.R_below (kr_ HO145) hb); have n2_ := Aside0.mk (Kd.R_elder' (kr_ HO148) (Kd.R_base ho0) hb); have n3_ := Aside0.mk (Kd.R_below (kr_ HO152) hb); have n4_ := Aside0.mk (Kd.R_lower (Kd.R_new' (Kd.R_new' ho0 (Kd.R_lt (kr_ HO142))) (Kd.R_lt (kr_ HO148))) (below_size (bl1_ HB GE138))); have n5_ := Aside0.mk (blk_below (g := gb138) (o := .cells #[.int .i64 a0_0, .int .i64 a0_1, .int .i64 a0_2, .slice (some ad149) l0_3.length c0_3, .int .i64 a0_4, .int .i64 a0_5, .int .i64 a0_6] 24 (0, 0)) (bk_ BK138) hb); have n6_ := Aside0.mk (below_step (bl1_ HB GE138) hb); clear HO142; clear HO145; clear HO148; clear HO152; clear BK138; clear HB; have HO142 := n0_; have HO145 := n1_; have HO148 := n2_; have HO152 := n3_; have HO155 := n4_; have BK138 := n5_; have HB := n6_; clear n0_ n1_ n2_ n3_ n4_ n5_ n6_; (try clear hb); (try clear hb2); (try clear hk); (try clear hi); (try clear ho0)))
        go_ret2
        exact ⟨_, by first | rfl | (simp [errW_none, errW_some] <;> rfl) | (simp [*, errW_none, errW_some] <;> rfl), by (with_reducible repeat (first | apply Kd.R_alloc | apply Kd.R_drewN | apply Kd.R_drew)); exact Kd.R_mono HO155.out (fun _ hk => trivial), bl1_ HB GE138⟩
      · rw [if_neg c6] at H
        exact absurd H (by simp)
    · rw [if_neg c5] at H
      have c5b0 : (a0_0 == 5) = false := beq_eq_false_iff_ne.mpr c5
      have c5b1 : (a0_0 != 5) = true := bne_iff_ne.mpr c5
      by_cases c26 : a0_0 = 6
      · rw [if_pos c26] at H
        have c26b0 : (a0_0 == 6) = true := beq_iff_eq.mpr c26
        have c26b1 : (a0_0 != 6) = false := bne_eq_false_iff_eq.mpr c26
        clear c26
        by_cases c27 : 0 < (l0_3.length : Int)
        · rw [if_pos c27] at H
          have c27b0 : decide (0 < (l0_3.length : Int)) = true := decide_eq_true c27
          have c27b1 : decide (0 < l0_3.length) = true := decide_eq_true (by omega)
          clear c27
          obtain ⟨y157, hy157⟩ : ∃ y_ : List Int, y_ = (([rd l0_3 0] : List Int)) := ⟨_, rfl⟩
          replace H : ((pdu_lay.f t146 y157).bind fun t160 => (some (t160, 0))) = some (r1, r2) := by first | (rw [hy157]; with_reducible exact H) | (have H2_ := (Option.bind_some _ _).symm.trans H; rw [hy157]; with_reducible exact H2_) | (have H2_ := (Option.bind_some _ _).symm.trans H; with_reducible exact H2_) | with_reducible exact H | (rw [hy157]; exact H) | exact H
          have Ny157 := Aside0.mk hy157
          clear hy157
          replace H := Option.bind_eq_some_iff.mp H
          obtain ⟨t160, A280, H⟩ := H
          replace H : (some (t160, 0)) = some (r1, r2) := H
          have A28 := Aside0.mk A280
          clear A280
          simp only [Option.some.injEq, Prod.mk.injEq] at H
          obtain ⟨rfl, rfl⟩ := H
          go_enter Try.func30, Try.ntmps30
          go_wp2_with (first | ((with_reducible refine gate_dst (N := 1) rfl ?_); refine box_event ?hg (N := 1) ?hd (cs := #[.int .i64 a0_0, .int .i64 a0_1, .int .i64 a0_2, .slice A0_3 l0_3.length c0_3, .int .i64 a0_4, .int .i64 a0_5, .int .i64 a0_6]) (t := 24) ?hr ?_; (case hd => rfl); (case hg => rfl); (case hr => first | (go_simp; done) | (go_simp; rfl)); intro gb138 hg w29 hbox hb; have n0_ := Aside0.mk (below_step (bl0_ HB) hb); have n1_ := Aside0.mk (hbox); have n2_ := Aside0.mk ((by rw [hg]; exact (below_size (bl0_ HB)) : w.heap.size ≤ gb138)); have n3_ := Aside0.mk ((by rw [hg]; exact (below_size (bl0_ HB)) : w.heap.size ≤ gb138)); clear HB; have HB := n0_; have BK138 := n1_; have GW138 := n2_; have GE138 := n3_; clear n0_ n1_ n2_ n3_; clear hb hbox hg; have hcz30_0 : w29.cell? ⟨gb138, 0, none⟩ = some (.int .i64 a0_0) := (blk_cell BK138.out 0).trans rfl; have hcz30_1 : w29.cell? ⟨gb138, 1, none⟩ = some (.int .i64 a0_1) := (blk_cell BK138.out 1).trans rfl; have hcz30_2 : w29.cell? ⟨gb138, 2, none⟩ = some (.int .i64 a0_2) := (blk_cell BK138.out 2).trans rfl; have hcz30_3 : w29.cell? ⟨gb138, 3, none⟩ = some (.slice A0_3 l0_3.length c0_3) := (blk_cell BK138.out 3).trans rfl; have hcz30_4 : w29.cell? ⟨gb138, 4, none⟩ = some (.int .i64 a0_4) := (blk_cell BK138.out 4).trans rfl; have hcz30_5 : w29.cell? ⟨gb138, 5, none⟩ = some (.int .i64 a0_5) := (blk_cell BK138.out 5).trans rfl; have hcz30_6 : w29.cell? ⟨gb138, 6, none⟩ = some (.int .i64 a0_6) := (blk_cell BK138.out 6).trans rfl; have hfz30_0 := blk_frozen BK138.out 0; have hfz30_1 := blk_frozen BK138.out 1; have hfz30_2 := blk_frozen BK138.out 2; have hfz30_3 := blk_frozen BK138.out 3; have hfz30_4 := blk_frozen BK138.out 4; have hfz30_5 := blk_frozen BK138.out 5; have hfz30_6 := blk_frozen BK138.out 6) | ((with_reducible refine gate_callee (f := 29) rfl ?_); refine goesL_ (some 7) rfl rfl Try.func29 (by kernel_rfl) rfl #[.agg #[.int .i64 a0_0, .int .i64 a0_1, .int .i64 a0_2, .slice A0_3 l0_3.length c0_3, .int .i64 a0_4, .int .i64 a0_5, .int .i64 a0_6]] rfl ar_ ?_; (with_reducible refine (pdu_Check.calls k a0_0 a0_1 a0_2 _ _ l0_3 a0_4 a0_5 a0_6 t139 _ ?side1 ?side2 A2.out).mono ?_); (case side1 => repeat (first | exact (Kd.C_below HR0_3.out HB.out) | (with_reducible refine Kd.C_alloc ?_ _) | (with_reducible refine Kd.C_drewN ?_ _) | (with_reducible refine Kd.C_drew ?_))); (case side2 => exact HC0_3.out); rintro e w31 ⟨rfl, hb⟩; refine ⟨_, rfl, ?_⟩; have n0_ := Aside0.mk (blk_below (g := gb138) (o := .cells #[.int .i64 a0_0, .int .i64 a0_1, .int .i64 a0_2, .slice A0_3 l0_3.length c0_3, .int .i64 a0_4, .int .i64 a0_5, .int .i64 a0_6] 24 (0, 0)) (bk_ BK138) hb); have n1_ := Aside0.mk (below_step (bl1_ HB GE138) hb); clear BK138; clear HB; have BK138 := n0_; have HB := n1_; clear n0_ n1_; (try clear hb); (try clear hb2); (try clear hk); (try clear hi); have hcz32_0 : w31.cell? ⟨gb138, 0, none⟩ = some (.int .i64 a0_0) := (blk_cell BK138.out 0).trans rfl; have hcz32_1 : w31.cell? ⟨gb138, 1, none⟩ = some (.int .i64 a0_1) := (blk_cell BK138.out 1).trans rfl; have hcz32_2 : w31.cell? ⟨gb138, 2, none⟩ = some (.int .i64 a0_2) := (blk_cell BK138.out 2).trans rfl; have hcz32_3 : w31.cell? ⟨gb138, 3, none⟩ = some (.slice A0_3 l0_3.length c0_3) := (blk_cell BK138.out 3).trans rfl; have hcz32_4 : w31.cell? ⟨gb138, 4, none⟩ = some (.int .i64 a0_4) := (blk_cell BK138.out 4).trans rfl; have hcz32_5 : w31.cell? ⟨gb138, 5, none⟩ = some (.int .i64 a0_5) := (blk_cell BK138.out 5).trans rfl; have hcz32_6 : w31.cell? ⟨gb138, 6, none⟩ = some (.int .i64 a0_6) := (blk_cell BK138.out 6).trans rfl; have hfz32_0 := blk_frozen BK138.out 0; have hfz32_1 := blk_frozen BK138.out 1; have hfz32_2 := blk_frozen BK138.out 2; have hfz32_3 := blk_frozen BK138.out 3; have hfz32_4 := blk_frozen BK138.out 4; have hfz32_5 := blk_frozen BK138.out 5; have hfz32_6 := blk_frozen BK138.out 6) | ((with_reducible refine gate_dst (N := 14) rfl ?_); refine Kd.R_lit (Kd.int .u8) _ 5 ?hg (N := 14) ?hd (xs := ([(a0_0) % 256] : List Int)) (inner := [.int .u8 ((a0_0) % 256)]) (ok := fun _ => True) (okp := fun _ => True) ?hr ?hp (fun _ hk => hk) trivial (Below.refl _ _) (Nat.le_refl _) (by simp) ?_; (case hd => rfl); (case hg => rfl); (case hr => first | (go_simp; done) | (go_simp; rfl)); (case hp => exact (Reps.one (show Kd.M (Kd.int .u8) _ _ _ ((a0_0) % 256) [.int .u8 ((a0_0) % 256)] from rfl) (Reps.none _ _))); intro v141 w33 ho34 hb hg_ hnew_; clear hg_ hnew_; (first | rw [← Ny140.out] at ho34 | (simp only [Int.reduceToNat] at ho34; rw [← Ny140.out] at ho34)); have n0_ := Aside0.mk (Kd.R_lower ho34 (below_size (bl1_ HB GE138))); have n1_ := Aside0.mk (blk_below (g := gb138) (o := .cells #[.int .i64 a0_0, .int .i64 a0_1, .int .i64 a0_2, .slice A0_3 l0_3.length c0_3, .int .i64 a0_4, .int .i64 a0_5, .int .i64 a0_6] 24 (0, 0)) (bk_ BK138) hb); have n2_ := Aside0.mk (below_step (bl1_ HB GE138) hb); clear BK138; clear HB; have HO142 := n0_; have BK138 := n1_; have HB := n2_; clear n0_ n1_ n2_; clear hb ho34; have hcz35_0 : w33.cell? ⟨gb138, 0, none⟩ = some (.int .i64 a0_0) := (blk_cell BK138.out 0).trans rfl; have hcz35_1 : w33.cell? ⟨gb138, 1, none⟩ = some (.int .i64 a0_1) := (blk_cell BK138.out 1).trans rfl; have hcz35_2 : w33.cell? ⟨gb138, 2, none⟩ = some (.int .i64 a0_2) := (blk_cell BK138.out 2).trans rfl; have hcz35_3 : w33.cell? ⟨gb138, 3, none⟩ = some (.slice A0_3 l0_3.length c0_3) := (blk_cell BK138.out 3).trans rfl; have hcz35_4 : w33.cell? ⟨gb138, 4, none⟩ = some (.int .i64 a0_4) := (blk_cell BK138.out 4).trans rfl; have hcz35_5 : w33.cell? ⟨gb138, 5, none⟩ = some (.int .i64 a0_5) := (blk_cell BK138.out 5).trans rfl; have hcz35_6 : w33.cell? ⟨gb138, 6, none⟩ = some (.int .i64 a0_6) := (blk_cell BK138.out 6).trans rfl; have hfz35_0 := blk_frozen BK138.out 0; have hfz35_1 := blk_frozen BK138.out 1; have hfz35_2 := blk_frozen BK138.out 2; have hfz35_3 := blk_frozen BK138.out 3; have hfz35_4 := blk_frozen BK138.out 4; have hfz35_5 := blk_frozen BK138.out 5; have hfz35_6 := blk_frozen BK138.out 6) | ((with_reducible refine gate_dst (N := 17) rfl ?_); refine Kd.R_lit (Kd.int .i64) _ 3 ?hg (N := 17) ?hd (xs := ([a0_1] : List Int)) (inner := [.int .i64 a0_1]) (ok := fun _ => True) (okp := fun _ => True) ?hr ?hp (fun _ hk => hk) trivial (Below.refl _ _) (Nat.le_refl _) (by simp) ?_; (case hd => rfl); (case hg => rfl); (case hr => first | (go_simp; done) | (go_simp; rfl)); (case hp => exact (Reps.one (show Kd.M (Kd.int .i64) _ _ _ a0_1 [.int .i64 a0_1] from rfl) (Reps.none _ _))); intro v144 w36 ho37 hb hg_ hnew_; clear hg_ hnew_; (first | rw [← Ny143.out] at ho37 | (simp only [Int.reduceToNat] at ho37; rw [← Ny143.out] at ho37)); have n0_ := Aside0.mk (Kd.R_below (kr_ HO142) hb); have n1_ := Aside0.mk (Kd.R_lower ho37 (below_size (bl1_ HB GE138))); have n2_ := Aside0.mk (blk_below (g := gb138) (o := .cells #[.int .i64 a0_0, .int .i64 a0_1, .int .i64 a0_2, .slice A0_3 l0_3.length c0_3, .int .i64 a0_4, .int .i64 a0_5, .int .i64 a0_6] 24 (0, 0)) (bk_ BK138) hb); have n3_ := Aside0.mk (below_step (bl1_ HB GE138) hb); clear HO142; clear BK138; clear HB; have HO142 := n0_; have HO145 := n1_; have BK138 := n2_; have HB := n3_; clear n0_ n1_ n2_ n3_; clear hb ho37; obtain ⟨Ao38, co38, eo38⟩ := Kd.R_slice HO142.out; subst eo38; obtain ⟨Ao39, co39, eo39⟩ := Kd.R_slice HO145.out; subst eo39) | ((with_reducible refine gate_callee (f := 53) rfl ?_); refine goesL_ (some 18) rfl rfl Try.func53 (by kernel_rfl) rfl #[.slice Ao38 y140.length co38, .slice Ao39 y143.length co39] rfl ar_ ?_; (with_reducible refine (pdu_lay.calls _ _ y140 _ _ y143 t146 _ ?side1 ?side2 ?side3 ?side4 A4.out).mono ?_); (case side1 => repeat (first | exact (Kd.R_reads' HO142.out).2.2 | (with_reducible refine Kd.C_alloc ?_ _) | (with_reducible refine Kd.C_drewN ?_ _) | (with_reducible refine Kd.C_drew ?_))); (case side2 => exact (Kd.R_reads' HO142.out).2.1); (case side3 => repeat (first | exact (Kd.R_reads' HO145.out).2.2 | (with_reducible refine Kd.C_alloc ?_ _) | (with_reducible refine Kd.C_drewN ?_ _) | (with_reducible refine Kd.C_drew ?_))); (case side4 => exact (Kd.R_reads' HO145.out).2.1); rintro e w40 ⟨v147, rfl, ho0, hb⟩; refine ⟨_, rfl, ?_⟩; have n0_ := Aside0.mk (Kd.R_elder' (kr_ HO142) (Kd.R_base ho0) hb); have n1_ := Aside0.mk (Kd.R_below (kr_ HO145) hb); have n2_ := Aside0.mk (Kd.R_lower (Kd.R_new' ho0 (Kd.R_lt (kr_ HO142))) (below_size (bl1_ HB GE138))); have n3_ := Aside0.mk (blk_below (g := gb138) (o := .cells #[.int .i64 a0_0, .int .i64 a0_1, .int .i64 a0_2, .slice A0_3 l0_3.length c0_3, .int .i64 a0_4, .int .i64 a0_5, .int .i64 a0_6] 24 (0, 0)) (bk_ BK138) hb); have n4_ := Aside0.mk (below_step (bl1_ HB GE138) hb); clear HO142; clear HO145; clear BK138; clear HB; have HO142 := n0_; have HO145 := n1_; have HO148 := n2_; have BK138 := n3_; have HB := n4_; clear n0_ n1_ n2_ n3_ n4_; (try clear hb); (try clear hb2); (try clear hk); (try clear hi); (try clear ho0); have hcz41_0 : w40.cell? ⟨gb138, 0, none⟩ = some (.int .i64 a0_0) := (blk_cell BK138.out 0).trans rfl; have hcz41_1 : w40.cell? ⟨gb138, 1, none⟩ = some (.int .i64 a0_1) := (blk_cell BK138.out 1).trans rfl; have hcz41_2 : w40.cell? ⟨gb138, 2, none⟩ = some (.int .i64 a0_2) := (blk_cell BK138.out 2).trans rfl; have hcz41_3 : w40.cell? ⟨gb138, 3, none⟩ = some (.slice A0_3 l0_3.length c0_3) := (blk_cell BK138.out 3).trans rfl; have hcz41_4 : w40.cell? ⟨gb138, 4, none⟩ = some (.int .i64 a0_4) := (blk_cell BK138.out 4).trans rfl; have hcz41_5 : w40.cell? ⟨gb138, 5, none⟩ = some (.int .i64 a0_5) := (blk_cell BK138.out 5).trans rfl; have hcz41_6 : w40.cell? ⟨gb138, 6, none⟩ = some (.int .i64 a0_6) := (blk_cell BK138.out 6).trans rfl; have hfz41_0 := blk_frozen BK138.out 0; have hfz41_1 := blk_frozen BK138.out 1; have hfz41_2 := blk_frozen BK138.out 2; have hfz41_3 := blk_frozen BK138.out 3; have hfz41_4 := blk_frozen BK138.out 4; have hfz41_5 := blk_frozen BK138.out 5; have hfz41_6 := blk_frozen BK138.out 6; have p156 : 0 ≤ (0 : Int) := (by omega); have q156 : 0 < (l0_3.length : Int) := of_decide_eq_true (by first | (with_reducible assumption) | assumption); obtain ⟨ad156, e156, hx156_0⟩ := Kd.at_int HR0_3.out 0 p156 q156; cases e156; have qi156 : (0 < l0_3.length) = True := eq_true (by omega); (try rw [show ((0 : Int)).toNat = 0 from rfl] at hx156_0); (try rw [Addr.add_zero'] at hx156_0); replace hx156_0 := (HB.out.cell (World.block_lt_of_cell? w _ hx156_0)).trans hx156_0; replace p156 := eq_true p156; replace q156 := eq_true q156) | ((with_reducible refine gate_dst (N := 43) rfl ?_); refine Kd.R_lit (Kd.int .i64) _ 3 ?hg (N := 43) ?hd (xs := ([rd l0_3 0] : List Int)) (inner := [.int .i64 (rd l0_3 0)]) (ok := fun _ => True) (okp := fun _ => True) ?hr ?hp (fun _ hk => hk) trivial (Below.refl _ _) (Nat.le_refl _) (by simp) ?_; (case hd => rfl); (case hg => rfl); (case hr => first | (go_simp; done) | (go_simp; rfl)); (case hp => exact (Reps.one (show Kd.M (Kd.int .i64) _ _ _ (rd l0_3 0) [.int .i64 (rd l0_3 0)] from rfl) (Reps.none _ _))); intro v158 w42 ho43 hb hg_ hnew_; clear hg_ hnew_; (first | rw [← Ny157.out] at ho43 | (simp only [Int.reduceToNat] at ho43; rw [← Ny157.out] at ho43)); have n0_ := Aside0.mk (Kd.R_below (kr_ HO142) hb); have n1_ := Aside0.mk (Kd.R_elder' (kr_ HO145) (Kd.R_base ho43) hb); have n2_ := Aside0.mk (Kd.R_below (kr_ HO148) hb); have n3_ := Aside0.mk (Kd.R_lower (Kd.R_new' ho43 (Kd.R_lt (kr_ HO145))) (below_size (bl1_ HB GE138))); have n4_ := Aside0.mk (blk_below (g := gb138) (o := .cells #[.int .i64 a0_0, .int .i64 a0_1, .int .i64 a0_2, .slice (some ad156) l0_3.length c0_3, .int .i64 a0_4, .int .i64 a0_5, .int .i64 a0_6] 24 (0, 0)) (bk_ BK138) hb); have n5_ := Aside0.mk (below_step (bl1_ HB GE138) hb); clear HO142; clear HO145; clear HO148; clear BK138; clear HB; have HO142 := n0_; have HO145 := n1_; have HO148 := n2_; have HO159 := n3_; have BK138 := n4_; have HB := n5_; clear n0_ n1_ n2_ n3_ n4_ n5_; clear hb ho43; obtain ⟨Ao44, co44, eo44⟩ := Kd.R_slice HO148.out; subst eo44; obtain ⟨Ao45, co45, eo45⟩ := Kd.R_slice HO159.out; subst eo45) | ((with_reducible refine gate_callee (f := 53) rfl ?_); refine goesL_ (some 44) rfl rfl Try.func53 (by kernel_rfl) rfl #[.slice Ao44 t146.length co44, .slice Ao45 y157.length co45] rfl ar_ ?_; (with_reducible refine (pdu_lay.calls _ _ t146 _ _ y157 t160 _ ?side1 ?side2 ?side3 ?side4 A28.out).mono ?_); (case side1 => repeat (first | exact (Kd.R_reads' HO148.out).2.2 | (with_reducible refine Kd.C_alloc ?_ _) | (with_reducible refine Kd.C_drewN ?_ _) | (with_reducible refine Kd.C_drew ?_))); (case side2 => exact (Kd.R_reads' HO148.out).2.1); (case side3 => repeat (first | exact (Kd.R_reads' HO159.out).2.2 | (with_reducible refine Kd.C_alloc ?_ _) | (with_reducible refine Kd.C_drewN ?_ _) | (with_reducible refine Kd.C_drew ?_))); (case side4 => exact (Kd.R_reads' HO159.out).2.1); rintro e w46 ⟨v161, rfl, ho0, hb⟩; refine ⟨_, rfl, ?_⟩; have n0_ := Aside0.mk (Kd.R_elder' (kr_ HO142) (Kd.R_base ho0) hb); have n1_ := Aside0.mk (Kd.R_below (kr_ HO145) hb); have n2_ := Aside0.mk (Kd.R_elder' (kr_ HO148) (Kd.R_base ho0) hb); have n3_ := Aside0.mk (Kd.R_below (kr_ HO159) hb); have n4_ := Aside0.mk (Kd.R_lower (Kd.R_new' (Kd.R_new' ho0 (Kd.R_lt (kr_ HO142))) (Kd.R_lt (kr_ HO148))) (below_size (bl1_ HB GE138))); have n5_ := Aside0.mk (blk_below (g := gb138) (o := .cells #[.int .i64 a0_0, .int .i64 a0_1, .int .i64 a0_2, .slice (some ad156) l0_3.length c0_3, .int .i64 a0_4, .int .i64 a0_5, .int .i64 a0_6] 24 (0, 0)) (bk_ BK138) hb); have n6_ := Aside0.mk (below_step (bl1_ HB GE138) hb); clear HO142; clear HO145; clear HO148; clear HO159; clear BK138; clear HB; have HO142 := n0_; have HO145 := n1_; have HO148 := n2_; have HO159 := n3_; have HO162 := n4_; have BK138 := n5_; have HB := n6_; clear n0_ n1_ n2_ n3_ n4_ n5_ n6_; (try clear hb); (try clear hb2); (try clear hk); (try clear hi); (try clear ho0)))
          go_ret2
          exact ⟨_, by first | rfl | (simp [errW_none, errW_some] <;> rfl) | (simp [*, errW_none, errW_some] <;> rfl), by (with_reducible repeat (first | apply Kd.R_alloc | apply Kd.R_drewN | apply Kd.R_drew)); exact Kd.R_mono HO162.out (fun _ hk => trivial), bl1_ HB GE138⟩
        · rw [if_neg c27] at H
          exact absurd H (by simp)
      · rw [if_neg c26] at H
        have c26b0 : (a0_0 == 6) = false := beq_eq_false_iff_ne.mpr c26
        have c26b1 : (a0_0 != 6) = true := bne_iff_ne.mpr c26
        by_cases c47 : a0_0 = 22
        · rw [if_pos c47] at H
          have c47b0 : (a0_0 == 22) = true := beq_iff_eq.mpr c47
          have c47b1 : (a0_0 != 22) = false := bne_eq_false_iff_eq.mpr c47
          clear c47
          obtain ⟨y163, hy163⟩ : ∃ y_ : List Int, y_ = (([a0_5, a0_6] : List Int)) := ⟨_, rfl⟩
          replace H : ((pdu_lay.f t146 y163).bind fun t166 => (some (t166, 0))) = some (r1, r2) := by first | (rw [hy163]; with_reducible exact H) | (have H2_ := (Option.bind_some _ _).symm.trans H; rw [hy163]; with_reducible exact H2_) | (have H2_ := (Option.bind_some _ _).symm.trans H; with_reducible exact H2_) | with_reducible exact H | (rw [hy163]; exact H) | exact H
          have Ny163 := Aside0.mk hy163
          clear hy163
          replace H := Option.bind_eq_some_iff.mp H
          obtain ⟨t166, A480, H⟩ := H
          replace H : (some (t166, 0)) = some (r1, r2) := H
          have A48 := Aside0.mk A480
          clear A480
          simp only [Option.some.injEq, Prod.mk.injEq] at H
          obtain ⟨rfl, rfl⟩ := H
          go_enter Try.func30, Try.ntmps30
          go_wp2_with (first | ((with_reducible refine gate_dst (N := 1) rfl ?_); refine box_event ?hg (N := 1) ?hd (cs := #[.int .i64 a0_0, .int .i64 a0_1, .int .i64 a0_2, .slice A0_3 l0_3.length c0_3, .int .i64 a0_4, .int .i64 a0_5, .int .i64 a0_6]) (t := 24) ?hr ?_; (case hd => rfl); (case hg => rfl); (case hr => first | (go_simp; done) | (go_simp; rfl)); intro gb138 hg w49 hbox hb; have n0_ := Aside0.mk (below_step (bl0_ HB) hb); have n1_ := Aside0.mk (hbox); have n2_ := Aside0.mk ((by rw [hg]; exact (below_size (bl0_ HB)) : w.heap.size ≤ gb138)); have n3_ := Aside0.mk ((by rw [hg]; exact (below_size (bl0_ HB)) : w.heap.size ≤ gb138)); clear HB; have HB := n0_; have BK138 := n1_; have GW138 := n2_; have GE138 := n3_; clear n0_ n1_ n2_ n3_; clear hb hbox hg; have hcz50_0 : w49.cell? ⟨gb138, 0, none⟩ = some (.int .i64 a0_0) := (blk_cell BK138.out 0).trans rfl; have hcz50_1 : w49.cell? ⟨gb138, 1, none⟩ = some (.int .i64 a0_1) := (blk_cell BK138.out 1).trans rfl; have hcz50_2 : w49.cell? ⟨gb138, 2, none⟩ = some (.int .i64 a0_2) := (blk_cell BK138.out 2).trans rfl; have hcz50_3 : w49.cell? ⟨gb138, 3, none⟩ = some (.slice A0_3 l0_3.length c0_3) := (blk_cell BK138.out 3).trans rfl; have hcz50_4 : w49.cell? ⟨gb138, 4, none⟩ = some (.int .i64 a0_4) := (blk_cell BK138.out 4).trans rfl; have hcz50_5 : w49.cell? ⟨gb138, 5, none⟩ = some (.int .i64 a0_5) := (blk_cell BK138.out 5).trans rfl; have hcz50_6 : w49.cell? ⟨gb138, 6, none⟩ = some (.int .i64 a0_6) := (blk_cell BK138.out 6).trans rfl; have hfz50_0 := blk_frozen BK138.out 0; have hfz50_1 := blk_frozen BK138.out 1; have hfz50_2 := blk_frozen BK138.out 2; have hfz50_3 := blk_frozen BK138.out 3; have hfz50_4 := blk_frozen BK138.out 4; have hfz50_5 := blk_frozen BK138.out 5; have hfz50_6 := blk_frozen BK138.out 6) | ((with_reducible refine gate_callee (f := 29) rfl ?_); refine goesL_ (some 7) rfl rfl Try.func29 (by kernel_rfl) rfl #[.agg #[.int .i64 a0_0, .int .i64 a0_1, .int .i64 a0_2, .slice A0_3 l0_3.length c0_3, .int .i64 a0_4, .int .i64 a0_5, .int .i64 a0_6]] rfl ar_ ?_; (with_reducible refine (pdu_Check.calls k a0_0 a0_1 a0_2 _ _ l0_3 a0_4 a0_5 a0_6 t139 _ ?side1 ?side2 A2.out).mono ?_); (case side1 => repeat (first | exact (Kd.C_below HR0_3.out HB.out) | (with_reducible refine Kd.C_alloc ?_ _) | (with_reducible refine Kd.C_drewN ?_ _) | (with_reducible refine Kd.C_drew ?_))); (case side2 => exact HC0_3.out); rintro e w51 ⟨rfl, hb⟩; refine ⟨_, rfl, ?_⟩; have n0_ := Aside0.mk (blk_below (g := gb138) (o := .cells #[.int .i64 a0_0, .int .i64 a0_1, .int .i64 a0_2, .slice A0_3 l0_3.length c0_3, .int .i64 a0_4, .int .i64 a0_5, .int .i64 a0_6] 24 (0, 0)) (bk_ BK138) hb); have n1_ := Aside0.mk (below_step (bl1_ HB GE138) hb); clear BK138; clear HB; have BK138 := n0_; have HB := n1_; clear n0_ n1_; (try clear hb); (try clear hb2); (try clear hk); (try clear hi); have hcz52_0 : w51.cell? ⟨gb138, 0, none⟩ = some (.int .i64 a0_0) := (blk_cell BK138.out 0).trans rfl; have hcz52_1 : w51.cell? ⟨gb138, 1, none⟩ = some (.int .i64 a0_1) := (blk_cell BK138.out 1).trans rfl; have hcz52_2 : w51.cell? ⟨gb138, 2, none⟩ = some (.int .i64 a0_2) := (blk_cell BK138.out 2).trans rfl; have hcz52_3 : w51.cell? ⟨gb138, 3, none⟩ = some (.slice A0_3 l0_3.length c0_3) := (blk_cell BK138.out 3).trans rfl; have hcz52_4 : w51.cell? ⟨gb138, 4, none⟩ = some (.int .i64 a0_4) := (blk_cell BK138.out 4).trans rfl; have hcz52_5 : w51.cell? ⟨gb138, 5, none⟩ = some (.int .i64 a0_5) := (blk_cell BK138.out 5).trans rfl; have hcz52_6 : w51.cell? ⟨gb138, 6, none⟩ = some (.int .i64 a0_6) := (blk_cell BK138.out 6).trans rfl; have hfz52_0 := blk_frozen BK138.out 0; have hfz52_1 := blk_frozen BK138.out 1; have hfz52_2 := blk_frozen BK138.out 2; have hfz52_3 := blk_frozen BK138.out 3; have hfz52_4 := blk_frozen BK138.out 4; have hfz52_5 := blk_frozen BK138.out 5; have hfz52_6 := blk_frozen BK138.out 6) | ((with_reducible refine gate_dst (N := 14) rfl ?_); refine Kd.R_lit (Kd.int .u8) _ 5 ?hg (N := 14) ?hd (xs := ([(a0_0) % 256] : List Int)) (inner := [.int .u8 ((a0_0) % 256)]) (ok := fun _ => True) (okp := fun _ => True) ?hr ?hp (fun _ hk => hk) trivial (Below.refl _ _) (Nat.le_refl _) (by simp) ?_; (case hd => rfl); (case hg => rfl); (case hr => first | (go_simp; done) | (go_simp; rfl)); (case hp => exact (Reps.one (show Kd.M (Kd.int .u8) _ _ _ ((a0_0) % 256) [.int .u8 ((a0_0) % 256)] from rfl) (Reps.none _ _))); intro v141 w53 ho54 hb hg_ hnew_; clear hg_ hnew_; (first | rw [← Ny140.out] at ho54 | (simp only [Int.reduceToNat] at ho54; rw [← Ny140.out] at ho54)); have n0_ := Aside0.mk (Kd.R_lower ho54 (below_size (bl1_ HB GE138))); have n1_ := Aside0.mk (blk_below (g := gb138) (o := .cells #[.int .i64 a0_0, .int .i64 a0_1, .int .i64 a0_2, .slice A0_3 l0_3.length c0_3, .int .i64 a0_4, .int .i64 a0_5, .int .i64 a0_6] 24 (0, 0)) (bk_ BK138) hb); have n2_ := Aside0.mk (below_step (bl1_ HB GE138) hb); clear BK138; clear HB; have HO142 := n0_; have BK138 := n1_; have HB := n2_; clear n0_ n1_ n2_; clear hb ho54; have hcz55_0 : w53.cell? ⟨gb138, 0, none⟩ = some (.int .i64 a0_0) := (blk_cell BK138.out 0).trans rfl; have hcz55_1 : w53.cell? ⟨gb138, 1, none⟩ = some (.int .i64 a0_1) := (blk_cell BK138.out 1).trans rfl; have hcz55_2 : w53.cell? ⟨gb138, 2, none⟩ = some (.int .i64 a0_2) := (blk_cell BK138.out 2).trans rfl; have hcz55_3 : w53.cell? ⟨gb138, 3, none⟩ = some (.slice A0_3 l0_3.length c0_3) := (blk_cell BK138.out 3).trans rfl; have hcz55_4 : w53.cell? ⟨gb138, 4, none⟩ = some (.int .i64 a0_4) := (blk_cell BK138.out 4).trans rfl; have hcz55_5 : w53.cell? ⟨gb138, 5, none⟩ = some (.int .i64 a0_5) := (blk_cell BK138.out 5).trans rfl; have hcz55_6 : w53.cell? ⟨gb138, 6, none⟩ = some (.int .i64 a0_6) := (blk_cell BK138.out 6).trans rfl; have hfz55_0 := blk_frozen BK138.out 0; have hfz55_1 := blk_frozen BK138.out 1; have hfz55_2 := blk_frozen BK138.out 2; have hfz55_3 := blk_frozen BK138.out 3; have hfz55_4 := blk_frozen BK138.out 4; have hfz55_5 := blk_frozen BK138.out 5; have hfz55_6 := blk_frozen BK138.out 6) | ((with_reducible refine gate_dst (N := 17) rfl ?_); refine Kd.R_lit (Kd.int .i64) _ 3 ?hg (N := 17) ?hd (xs := ([a0_1] : List Int)) (inner := [.int .i64 a0_1]) (ok := fun _ => True) (okp := fun _ => True) ?hr ?hp (fun _ hk => hk) trivial (Below.refl _ _) (Nat.le_refl _) (by simp) ?_; (case hd => rfl); (case hg => rfl); (case hr => first | (go_simp; done) | (go_simp; rfl)); (case hp => exact (Reps.one (show Kd.M (Kd.int .i64) _ _ _ a0_1 [.int .i64 a0_1] from rfl) (Reps.none _ _))); intro v144 w56 ho57 hb hg_ hnew_; clear hg_ hnew_; (first | rw [← Ny143.out] at ho57 | (simp only [Int.reduceToNat] at ho57; rw [← Ny143.out] at ho57)); have n0_ := Aside0.mk (Kd.R_below (kr_ HO142) hb); have n1_ := Aside0.mk (Kd.R_lower ho57 (below_size (bl1_ HB GE138))); have n2_ := Aside0.mk (blk_below (g := gb138) (o := .cells #[.int .i64 a0_0, .int .i64 a0_1, .int .i64 a0_2, .slice A0_3 l0_3.length c0_3, .int .i64 a0_4, .int .i64 a0_5, .int .i64 a0_6] 24 (0, 0)) (bk_ BK138) hb); have n3_ := Aside0.mk (below_step (bl1_ HB GE138) hb); clear HO142; clear BK138; clear HB; have HO142 := n0_; have HO145 := n1_; have BK138 := n2_; have HB := n3_; clear n0_ n1_ n2_ n3_; clear hb ho57; obtain ⟨Ao58, co58, eo58⟩ := Kd.R_slice HO142.out; subst eo58; obtain ⟨Ao59, co59, eo59⟩ := Kd.R_slice HO145.out; subst eo59) | ((with_reducible refine gate_callee (f := 53) rfl ?_); refine goesL_ (some 18) rfl rfl Try.func53 (by kernel_rfl) rfl #[.slice Ao58 y140.length co58, .slice Ao59 y143.length co59] rfl ar_ ?_; (with_reducible refine (pdu_lay.calls _ _ y140 _ _ y143 t146 _ ?side1 ?side2 ?side3 ?side4 A4.out).mono ?_); (case side1 => repeat (first | exact (Kd.R_reads' HO142.out).2.2 | (with_reducible refine Kd.C_alloc ?_ _) | (with_reducible refine Kd.C_drewN ?_ _) | (with_reducible refine Kd.C_drew ?_))); (case side2 => exact (Kd.R_reads' HO142.out).2.1); (case side3 => repeat (first | exact (Kd.R_reads' HO145.out).2.2 | (with_reducible refine Kd.C_alloc ?_ _) | (with_reducible refine Kd.C_drewN ?_ _) | (with_reducible refine Kd.C_drew ?_))); (case side4 => exact (Kd.R_reads' HO145.out).2.1); rintro e w60 ⟨v147, rfl, ho0, hb⟩; refine ⟨_, rfl, ?_⟩; have n0_ := Aside0.mk (Kd.R_elder' (kr_ HO142) (Kd.R_base ho0) hb); have n1_ := Aside0.mk (Kd.R_below (kr_ HO145) hb); have n2_ := Aside0.mk (Kd.R_lower (Kd.R_new' ho0 (Kd.R_lt (kr_ HO142))) (below_size (bl1_ HB GE138))); have n3_ := Aside0.mk (blk_below (g := gb138) (o := .cells #[.int .i64 a0_0, .int .i64 a0_1, .int .i64 a0_2, .slice A0_3 l0_3.length c0_3, .int .i64 a0_4, .int .i64 a0_5, .int .i64 a0_6] 24 (0, 0)) (bk_ BK138) hb); have n4_ := Aside0.mk (below_step (bl1_ HB GE138) hb); clear HO142; clear HO145; clear BK138; clear HB; have HO142 := n0_; have HO145 := n1_; have HO148 := n2_; have BK138 := n3_; have HB := n4_; clear n0_ n1_ n2_ n3_ n4_; (try clear hb); (try clear hb2); (try clear hk); (try clear hi); (try clear ho0); have hcz61_0 : w60.cell? ⟨gb138, 0, none⟩ = some (.int .i64 a0_0) := (blk_cell BK138.out 0).trans rfl; have hcz61_1 : w60.cell? ⟨gb138, 1, none⟩ = some (.int .i64 a0_1) := (blk_cell BK138.out 1).trans rfl; have hcz61_2 : w60.cell? ⟨gb138, 2, none⟩ = some (.int .i64 a0_2) := (blk_cell BK138.out 2).trans rfl; have hcz61_3 : w60.cell? ⟨gb138, 3, none⟩ = some (.slice A0_3 l0_3.length c0_3) := (blk_cell BK138.out 3).trans rfl; have hcz61_4 : w60.cell? ⟨gb138, 4, none⟩ = some (.int .i64 a0_4) := (blk_cell BK138.out 4).trans rfl; have hcz61_5 : w60.cell? ⟨gb138, 5, none⟩ = some (.int .i64 a0_5) := (blk_cell BK138.out 5).trans rfl; have hcz61_6 : w60.cell? ⟨gb138, 6, none⟩ = some (.int .i64 a0_6) := (blk_cell BK138.out 6).trans rfl; have hfz61_0 := blk_frozen BK138.out 0; have hfz61_1 := blk_frozen BK138.out 1; have hfz61_2 := blk_frozen BK138.out 2; have hfz61_3 := blk_frozen BK138.out 3; have hfz61_4 := blk_frozen BK138.out 4; have hfz61_5 := blk_frozen BK138.out 5; have hfz61_6 := blk_frozen BK138.out 6) | ((with_reducible refine gate_dst (N := 52) rfl ?_); refine Kd.R_lit (Kd.int .i64) _ 3 ?hg (N := 52) ?hd (xs := ([a0_5, a0_6] : List Int)) (inner := [.int .i64 a0_5, .int .i64 a0_6]) (ok := fun _ => True) (okp := fun _ => True) ?hr ?hp (fun _ hk => hk) trivial (Below.refl _ _) (Nat.le_refl _) (by simp) ?_; (case hd => rfl); (case hg => rfl); (case hr => first | (go_simp; done) | (go_simp; rfl)); (case hp => exact (Reps.one (show Kd.M (Kd.int .i64) _ _ _ a0_5 [.int .i64 a0_5] from rfl) (Reps.one (show Kd.M (Kd.int .i64) _ _ _ a0_6 [.int .i64 a0_6] from rfl) (Reps.none _ _)))); intro v164 w62 ho63 hb hg_ hnew_; clear hg_ hnew_; (first | rw [← Ny163.out] at ho63 | (simp only [Int.reduceToNat] at ho63; rw [← Ny163.out] at ho63)); have n0_ := Aside0.mk (Kd.R_below (kr_ HO142) hb); have n1_ := Aside0.mk (Kd.R_elder' (kr_ HO145) (Kd.R_base ho63) hb); have n2_ := Aside0.mk (Kd.R_below (kr_ HO148) hb); have n3_ := Aside0.mk (Kd.R_lower (Kd.R_new' ho63 (Kd.R_lt (kr_ HO145))) (below_size (bl1_ HB GE138))); have n4_ := Aside0.mk (blk_below (g := gb138) (o := .cells #[.int .i64 a0_0, .int .i64 a0_1, .int .i64 a0_2, .slice A0_3 l0_3.length c0_3, .int .i64 a0_4, .int .i64 a0_5, .int .i64 a0_6] 24 (0, 0)) (bk_ BK138) hb); have n5_ := Aside0.mk (below_step (bl1_ HB GE138) hb); clear HO142; clear HO145; clear HO148; clear BK138; clear HB; have HO142 := n0_; have HO145 := n1_; have HO148 := n2_; have HO165 := n3_; have BK138 := n4_; have HB := n5_; clear n0_ n1_ n2_ n3_ n4_ n5_; clear hb ho63; obtain ⟨Ao64, co64, eo64⟩ := Kd.R_slice HO148.out; subst eo64; obtain ⟨Ao65, co65, eo65⟩ := Kd.R_slice HO165.out; subst eo65) | ((with_reducible refine gate_callee (f := 53) rfl ?_); refine goesL_ (some 53) rfl rfl Try.func53 (by kernel_rfl) rfl #[.slice Ao64 t146.length co64, .slice Ao65 y163.length co65] rfl ar_ ?_; (with_reducible refine (pdu_lay.calls _ _ t146 _ _ y163 t166 _ ?side1 ?side2 ?side3 ?side4 A48.out).mono ?_); (case side1 => repeat (first | exact (Kd.R_reads' HO148.out).2.2 | (with_reducible refine Kd.C_alloc ?_ _) | (with_reducible refine Kd.C_drewN ?_ _) | (with_reducible refine Kd.C_drew ?_))); (case side2 => exact (Kd.R_reads' HO148.out).2.1); (case side3 => repeat (first | exact (Kd.R_reads' HO165.out).2.2 | (with_reducible refine Kd.C_alloc ?_ _) | (with_reducible refine Kd.C_drewN ?_ _) | (with_reducible refine Kd.C_drew ?_))); (case side4 => exact (Kd.R_reads' HO165.out).2.1); rintro e w66 ⟨v167, rfl, ho0, hb⟩; refine ⟨_, rfl, ?_⟩; have n0_ := Aside0.mk (Kd.R_elder' (kr_ HO142) (Kd.R_base ho0) hb); have n1_ := Aside0.mk (Kd.R_below (kr_ HO145) hb); have n2_ := Aside0.mk (Kd.R_elder' (kr_ HO148) (Kd.R_base ho0) hb); have n3_ := Aside0.mk (Kd.R_below (kr_ HO165) hb); have n4_ := Aside0.mk (Kd.R_lower (Kd.R_new' (Kd.R_new' ho0 (Kd.R_lt (kr_ HO142))) (Kd.R_lt (kr_ HO148))) (below_size (bl1_ HB GE138))); have n5_ := Aside0.mk (blk_below (g := gb138) (o := .cells #[.int .i64 a0_0, .int .i64 a0_1, .int .i64 a0_2, .slice A0_3 l0_3.length c0_3, .int .i64 a0_4, .int .i64 a0_5, .int .i64 a0_6] 24 (0, 0)) (bk_ BK138) hb); have n6_ := Aside0.mk (below_step (bl1_ HB GE138) hb); clear HO142; clear HO145; clear HO148; clear HO165; clear BK138; clear HB; have HO142 := n0_; have HO145 := n1_; have HO148 := n2_; have HO165 := n3_; have HO168 := n4_; have BK138 := n5_; have HB := n6_; clear n0_ n1_ n2_ n3_ n4_ n5_ n6_; (try clear hb); (try clear hb2); (try clear hk); (try clear hi); (try clear ho0)))
          go_ret2
          exact ⟨_, by first | rfl | (simp [errW_none, errW_some] <;> rfl) | (simp [*, errW_none, errW_some] <;> rfl), by (with_reducible repeat (first | apply Kd.R_alloc | apply Kd.R_drewN | apply Kd.R_drew)); exact Kd.R_mono HO168.out (fun _ hk => trivial), bl1_ HB GE138⟩
        · rw [if_neg c47] at H
          have c47b0 : (a0_0 == 22) = false := beq_eq_false_iff_ne.mpr c47
          have c47b1 : (a0_0 != 22) = true := bne_iff_ne.mpr c47
          by_cases c67 : a0_0 = 15
          · rw [if_pos c67] at H
            have c67b0 : (a0_0 == 15) = true := beq_iff_eq.mpr c67
            have c67b1 : (a0_0 != 15) = false := bne_eq_false_iff_eq.mpr c67
            clear c67
            obtain ⟨y169, hy169⟩ : ∃ y_ : List Int, y_ = (([a0_2] : List Int)) := ⟨_, rfl⟩
            replace H : ((pdu_lay.f t146 y169).bind fun t172 => ((pdu_packed.f k l0_3).bind fun t175 => ((pdu_counted.f t172 t175).bind fun t178 => (some (t178, 0))))) = some (r1, r2) := by first | (rw [hy169]; with_reducible exact H) | (have H2_ := (Option.bind_some _ _).symm.trans H; rw [hy169]; with_reducible exact H2_) | (have H2_ := (Option.bind_some _ _).symm.trans H; with_reducible exact H2_) | with_reducible exact H | (rw [hy169]; exact H) | exact H
            have Ny169 := Aside0.mk hy169
            clear hy169
            replace H := Option.bind_eq_some_iff.mp H
            obtain ⟨t172, A680, H⟩ := H
            replace H : ((pdu_packed.f k l0_3).bind fun t175 => ((pdu_counted.f t172 t175).bind fun t178 => (some (t178, 0)))) = some (r1, r2) := H
            have A68 := Aside0.mk A680
            clear A680
            replace H := Option.bind_eq_some_iff.mp H
            obtain ⟨t175, A690, H⟩ := H
            replace H : ((pdu_counted.f t172 t175).bind fun t178 => (some (t178, 0))) = some (r1, r2) := H
            have A69 := Aside0.mk A690
            clear A690
            replace H := Option.bind_eq_some_iff.mp H
            obtain ⟨t178, A700, H⟩ := H
            replace H : (some (t178, 0)) = some (r1, r2) := H
            have A70 := Aside0.mk A700
            clear A700
            simp only [Option.some.injEq, Prod.mk.injEq] at H
            obtain ⟨rfl, rfl⟩ := H
            go_enter Try.func30, Try.ntmps30
            try go_wp2_with (first | ((with_reducible refine gate_dst (N := 1) rfl ?_); refine box_event ?hg (N := 1) ?hd (cs := #[.int .i64 a0_0, .int .i64 a0_1, .int .i64 a0_2, .slice A0_3 l0_3.length c0_3, .int .i64 a0_4, .int .i64 a0_5, .int .i64 a0_6]) (t := 24) ?hr ?_; (case hd => rfl); (case hg => rfl); (case hr => first | (go_simp; done) | (go_simp; rfl)); intro gb138 hg w71 hbox hb; have n0_ := Aside0.mk (below_step (bl0_ HB) hb); have n1_ := Aside0.mk (hbox); have n2_ := Aside0.mk ((by rw [hg]; exact (below_size (bl0_ HB)) : w.heap.size ≤ gb138)); have n3_ := Aside0.mk ((by rw [hg]; exact (below_size (bl0_ HB)) : w.heap.size ≤ gb138)); clear HB; have HB := n0_; have BK138 := n1_; have GW138 := n2_; have GE138 := n3_; clear n0_ n1_ n2_ n3_; clear hb hbox hg; have hcz72_0 : w71.cell? ⟨gb138, 0, none⟩ = some (.int .i64 a0_0) := (blk_cell BK138.out 0).trans rfl; have hcz72_1 : w71.cell? ⟨gb138, 1, none⟩ = some (.int .i64 a0_1) := (blk_cell BK138.out 1).trans rfl; have hcz72_2 : w71.cell? ⟨gb138, 2, none⟩ = some (.int .i64 a0_2) := (blk_cell BK138.out 2).trans rfl; have hcz72_3 : w71.cell? ⟨gb138, 3, none⟩ = some (.slice A0_3 l0_3.length c0_3) := (blk_cell BK138.out 3).trans rfl; have hcz72_4 : w71.cell? ⟨gb138, 4, none⟩ = some (.int .i64 a0_4) := (blk_cell BK138.out 4).trans rfl; have hcz72_5 : w71.cell? ⟨gb138, 5, none⟩ = some (.int .i64 a0_5) := (blk_cell BK138.out 5).trans rfl; have hcz72_6 : w71.cell? ⟨gb138, 6, none⟩ = some (.int .i64 a0_6) := (blk_cell BK138.out 6).trans rfl; have hfz72_0 := blk_frozen BK138.out 0; have hfz72_1 := blk_frozen BK138.out 1; have hfz72_2 := blk_frozen BK138.out 2; have hfz72_3 := blk_frozen BK138.out 3; have hfz72_4 := blk_frozen BK138.out 4; have hfz72_5 := blk_frozen BK138.out 5; have hfz72_6 := blk_frozen BK138.out 6) | ((with_reducible refine gate_callee (f := 29) rfl ?_); refine goesL_ (some 7) rfl rfl Try.func29 (by kernel_rfl) rfl #[.agg #[.int .i64 a0_0, .int .i64 a0_1, .int .i64 a0_2, .slice A0_3 l0_3.length c0_3, .int .i64 a0_4, .int .i64 a0_5, .int .i64 a0_6]] rfl ar_ ?_; (with_reducible refine (pdu_Check.calls k a0_0 a0_1 a0_2 _ _ l0_3 a0_4 a0_5 a0_6 t139 _ ?side1 ?side2 A2.out).mono ?_); (case side1 => repeat (first | exact (Kd.C_below HR0_3.out HB.out) | (with_reducible refine Kd.C_alloc ?_ _) | (with_reducible refine Kd.C_drewN ?_ _) | (with_reducible refine Kd.C_drew ?_))); (case side2 => exact HC0_3.out); rintro e w73 ⟨rfl, hb⟩; refine ⟨_, rfl, ?_⟩; have n0_ := Aside0.mk (blk_below (g := gb138) (o := .cells #[.int .i64 a0_0, .int .i64 a0_1, .int .i64 a0_2, .slice A0_3 l0_3.length c0_3, .int .i64 a0_4, .int .i64 a0_5, .int .i64 a0_6] 24 (0, 0)) (bk_ BK138) hb); have n1_ := Aside0.mk (below_step (bl1_ HB GE138) hb); clear BK138; clear HB; have BK138 := n0_; have HB := n1_; clear n0_ n1_; (try clear hb); (try clear hb2); (try clear hk); (try clear hi); have hcz74_0 : w73.cell? ⟨gb138, 0, none⟩ = some (.int .i64 a0_0) := (blk_cell BK138.out 0).trans rfl; have hcz74_1 : w73.cell? ⟨gb138, 1, none⟩ = some (.int .i64 a0_1) := (blk_cell BK138.out 1).trans rfl; have hcz74_2 : w73.cell? ⟨gb138, 2, none⟩ = some (.int .i64 a0_2) := (blk_cell BK138.out 2).trans rfl; have hcz74_3 : w73.cell? ⟨gb138, 3, none⟩ = some (.slice A0_3 l0_3.length c0_3) := (blk_cell BK138.out 3).trans rfl; have hcz74_4 : w73.cell? ⟨gb138, 4, none⟩ = some (.int .i64 a0_4) := (blk_cell BK138.out 4).trans rfl; have hcz74_5 : w73.cell? ⟨gb138, 5, none⟩ = some (.int .i64 a0_5) := (blk_cell BK138.out 5).trans rfl; have hcz74_6 : w73.cell? ⟨gb138, 6, none⟩ = some (.int .i64 a0_6) := (blk_cell BK138.out 6).trans rfl; have hfz74_0 := blk_frozen BK138.out 0; have hfz74_1 := blk_frozen BK138.out 1; have hfz74_2 := blk_frozen BK138.out 2; have hfz74_3 := blk_frozen BK138.out 3; have hfz74_4 := blk_frozen BK138.out 4; have hfz74_5 := blk_frozen BK138.out 5; have hfz74_6 := blk_frozen BK138.out 6) | ((with_reducible refine gate_dst (N := 14) rfl ?_); refine Kd.R_lit (Kd.int .u8) _ 5 ?hg (N := 14) ?hd (xs := ([(a0_0) % 256] : List Int)) (inner := [.int .u8 ((a0_0) % 256)]) (ok := fun _ => True) (okp := fun _ => True) ?hr ?hp (fun _ hk => hk) trivial (Below.refl _ _) (Nat.le_refl _) (by simp) ?_; (case hd => rfl); (case hg => rfl); (case hr => first | (go_simp; done) | (go_simp; rfl)); (case hp => exact (Reps.one (show Kd.M (Kd.int .u8) _ _ _ ((a0_0) % 256) [.int .u8 ((a0_0) % 256)] from rfl) (Reps.none _ _))); intro v141 w75 ho76 hb hg_ hnew_; clear hg_ hnew_; (first | rw [← Ny140.out] at ho76 | (simp only [Int.reduceToNat] at ho76; rw [← Ny140.out] at ho76)); have n0_ := Aside0.mk (Kd.R_lower ho76 (below_size (bl1_ HB GE138))); have n1_ := Aside0.mk (blk_below (g := gb138) (o := .cells #[.int .i64 a0_0, .int .i64 a0_1, .int .i64 a0_2, .slice A0_3 l0_3.length c0_3, .int .i64 a0_4, .int .i64 a0_5, .int .i64 a0_6] 24 (0, 0)) (bk_ BK138) hb); have n2_ := Aside0.mk (below_step (bl1_ HB GE138) hb); clear BK138; clear HB; have HO142 := n0_; have BK138 := n1_; have HB := n2_; clear n0_ n1_ n2_; clear hb ho76; have hcz77_0 : w75.cell? ⟨gb138, 0, none⟩ = some (.int .i64 a0_0) := (blk_cell BK138.out 0).trans rfl; have hcz77_1 : w75.cell? ⟨gb138, 1, none⟩ = some (.int .i64 a0_1) := (blk_cell BK138.out 1).trans rfl; have hcz77_2 : w75.cell? ⟨gb138, 2, none⟩ = some (.int .i64 a0_2) := (blk_cell BK138.out 2).trans rfl; have hcz77_3 : w75.cell? ⟨gb138, 3, none⟩ = some (.slice A0_3 l0_3.length c0_3) := (blk_cell BK138.out 3).trans rfl; have hcz77_4 : w75.cell? ⟨gb138, 4, none⟩ = some (.int .i64 a0_4) := (blk_cell BK138.out 4).trans rfl; have hcz77_5 : w75.cell? ⟨gb138, 5, none⟩ = some (.int .i64 a0_5) := (blk_cell BK138.out 5).trans rfl; have hcz77_6 : w75.cell? ⟨gb138, 6, none⟩ = some (.int .i64 a0_6) := (blk_cell BK138.out 6).trans rfl; have hfz77_0 := blk_frozen BK138.out 0; have hfz77_1 := blk_frozen BK138.out 1; have hfz77_2 := blk_frozen BK138.out 2; have hfz77_3 := blk_frozen BK138.out 3; have hfz77_4 := blk_frozen BK138.out 4; have hfz77_5 := blk_frozen BK138.out 5; have hfz77_6 := blk_frozen BK138.out 6) | ((with_reducible refine gate_dst (N := 17) rfl ?_); refine Kd.R_lit (Kd.int .i64) _ 3 ?hg (N := 17) ?hd (xs := ([a0_1] : List Int)) (inner := [.int .i64 a0_1]) (ok := fun _ => True) (okp := fun _ => True) ?hr ?hp (fun _ hk => hk) trivial (Below.refl _ _) (Nat.le_refl _) (by simp) ?_; (case hd => rfl); (case hg => rfl); (case hr => first | (go_simp; done) | (go_simp; rfl)); (case hp => exact (Reps.one (show Kd.M (Kd.int .i64) _ _ _ a0_1 [.int .i64 a0_1] from rfl) (Reps.none _ _))); intro v144 w78 ho79 hb hg_ hnew_; clear hg_ hnew_; (first | rw [← Ny143.out] at ho79 | (simp only [Int.reduceToNat] at ho79; rw [← Ny143.out] at ho79)); have n0_ := Aside0.mk (Kd.R_below (kr_ HO142) hb); have n1_ := Aside0.mk (Kd.R_lower ho79 (below_size (bl1_ HB GE138))); have n2_ := Aside0.mk (blk_below (g := gb138) (o := .cells #[.int .i64 a0_0, .int .i64 a0_1, .int .i64 a0_2, .slice A0_3 l0_3.length c0_3, .int .i64 a0_4, .int .i64 a0_5, .int .i64 a0_6] 24 (0, 0)) (bk_ BK138) hb); have n3_ := Aside0.mk (below_step (bl1_ HB GE138) hb); clear HO142; clear BK138; clear HB; have HO142 := n0_; have HO145 := n1_; have BK138 := n2_; have HB := n3_; clear n0_ n1_ n2_ n3_; clear hb ho79; obtain ⟨Ao80, co80, eo80⟩ := Kd.R_slice HO142.out; subst eo80; obtain ⟨Ao81, co81, eo81⟩ := Kd.R_slice HO145.out; subst eo81) | ((with_reducible refine gate_callee (f := 53) rfl ?_); refine goesL_ (some 18) rfl rfl Try.func53 (by kernel_rfl) rfl #[.slice Ao80 y140.length co80, .slice Ao81 y143.length co81] rfl ar_ ?_; (with_reducible refine (pdu_lay.calls _ _ y140 _ _ y143 t146 _ ?side1 ?side2 ?side3 ?side4 A4.out).mono ?_); (case side1 => repeat (first | exact (Kd.R_reads' HO142.out).2.2 | (with_reducible refine Kd.C_alloc ?_ _) | (with_reducible refine Kd.C_drewN ?_ _) | (with_reducible refine Kd.C_drew ?_))); (case side2 => exact (Kd.R_reads' HO142.out).2.1); (case side3 => repeat (first | exact (Kd.R_reads' HO145.out).2.2 | (with_reducible refine Kd.C_alloc ?_ _) | (with_reducible refine Kd.C_drewN ?_ _) | (with_reducible refine Kd.C_drew ?_))); (case side4 => exact (Kd.R_reads' HO145.out).2.1); rintro e w82 ⟨v147, rfl, ho0, hb⟩; refine ⟨_, rfl, ?_⟩; have n0_ := Aside0.mk (Kd.R_elder' (kr_ HO142) (Kd.R_base ho0) hb); have n1_ := Aside0.mk (Kd.R_below (kr_ HO145) hb); have n2_ := Aside0.mk (Kd.R_lower (Kd.R_new' ho0 (Kd.R_lt (kr_ HO142))) (below_size (bl1_ HB GE138))); have n3_ := Aside0.mk (blk_below (g := gb138) (o := .cells #[.int .i64 a0_0, .int .i64 a0_1, .int .i64 a0_2, .slice A0_3 l0_3.length c0_3, .int .i64 a0_4, .int .i64 a0_5, .int .i64 a0_6] 24 (0, 0)) (bk_ BK138) hb); have n4_ := Aside0.mk (below_step (bl1_ HB GE138) hb); clear HO142; clear HO145; clear BK138; clear HB; have HO142 := n0_; have HO145 := n1_; have HO148 := n2_; have BK138 := n3_; have HB := n4_; clear n0_ n1_ n2_ n3_ n4_; (try clear hb); (try clear hb2); (try clear hk); (try clear hi); (try clear ho0); have hcz83_0 : w82.cell? ⟨gb138, 0, none⟩ = some (.int .i64 a0_0) := (blk_cell BK138.out 0).trans rfl; have hcz83_1 : w82.cell? ⟨gb138, 1, none⟩ = some (.int .i64 a0_1) := (blk_cell BK138.out 1).trans rfl; have hcz83_2 : w82.cell? ⟨gb138, 2, none⟩ = some (.int .i64 a0_2) := (blk_cell BK138.out 2).trans rfl; have hcz83_3 : w82.cell? ⟨gb138, 3, none⟩ = some (.slice A0_3 l0_3.length c0_3) := (blk_cell BK138.out 3).trans rfl; have hcz83_4 : w82.cell? ⟨gb138, 4, none⟩ = some (.int .i64 a0_4) := (blk_cell BK138.out 4).trans rfl; have hcz83_5 : w82.cell? ⟨gb138, 5, none⟩ = some (.int .i64 a0_5) := (blk_cell BK138.out 5).trans rfl; have hcz83_6 : w82.cell? ⟨gb138, 6, none⟩ = some (.int .i64 a0_6) := (blk_cell BK138.out 6).trans rfl; have hfz83_0 := blk_frozen BK138.out 0; have hfz83_1 := blk_frozen BK138.out 1; have hfz83_2 := blk_frozen BK138.out 2; have hfz83_3 := blk_frozen BK138.out 3; have hfz83_4 := blk_frozen BK138.out 4; have hfz83_5 := blk_frozen BK138.out 5; have hfz83_6 := blk_frozen BK138.out 6))
            have n0_ := Aside0.mk (Kd.R_drew HO142.out)
            have n1_ := Aside0.mk (Kd.R_drew HO145.out)
            have n2_ := Aside0.mk (Kd.R_drew HO148.out)
            have n3_ := Aside0.mk (blk_drew BK138.out)
            have n4_ := Aside0.mk (below_drew1 HB.out)
            clear HO142
            clear HO145
            clear HO148
            clear BK138
            clear HB
            have HO142 := n0_
            have HO145 := n1_
            have HO148 := n2_
            have BK138 := n3_
            have HB := n4_
            clear n0_ n1_ n2_ n3_ n4_
            refine start_ (n := 10) (S := fun w' => w'.cell? ⟨gb138, 0, none⟩ = some (.int .i64 a0_0) ∧ w'.cell? ⟨gb138, 1, none⟩ = some (.int .i64 a0_1) ∧ w'.cell? ⟨gb138, 2, none⟩ = some (.int .i64 a0_2) ∧ w'.cell? ⟨gb138, 3, none⟩ = some (.slice A0_3 l0_3.length c0_3) ∧ w'.cell? ⟨gb138, 4, none⟩ = some (.int .i64 a0_4) ∧ w'.cell? ⟨gb138, 5, none⟩ = some (.int .i64 a0_5) ∧ w'.cell? ⟨gb138, 6, none⟩ = some (.int .i64 a0_6)) (ds := []) #[false, false, false, false, false, false, false, false, false, false] (by kernel_rfl) rfl rfl ⟨(blk_cell BK138.out 0).trans rfl, (blk_cell BK138.out 1).trans rfl, (blk_cell BK138.out 2).trans rfl, (blk_cell BK138.out 3).trans rfl, (blk_cell BK138.out 4).trans rfl, (blk_cell BK138.out 5).trans rfl, (blk_cell BK138.out 6).trans rfl⟩ (fun hHeld => ?_); refine with_tabW pdu_Bytes.tab14 pdu_Bytes.bits14 (fun HT_ HW_ => ?_)
            generalize w82.drew = w84 at HO142 HO145 HO148 BK138 HB hHeld ⊢
            refine pure_ (i := 0) (N := some 56) (v := ?_) (a' := ?_) #[true, false, false, false, false, false, false, false, false, false] rfl rfl (any_of HT_.out (by kernel_rfl)) (fun _ _ _ h => h) (Or.inl ⟨by rfl, ?_⟩) ?_ ?_
            rotate_left
            · intro w'
              go_simp
              with_reducible rfl
            rotate_left
            · simp only [Act.put, List.setIfInBounds_toArray, List.set_cons_zero, List.set_cons_succ, i64_w, i32_w]
              rfl
            refine pure_ (i := 1) (N := some 57) (v := ?_) (a' := ?_) #[true, true, false, false, false, false, false, false, false, false] rfl rfl (any_of HT_.out (by kernel_rfl)) (fun _ _ _ h => h) (Or.inl ⟨by rfl, ?_⟩) ?_ ?_
            rotate_left
            · intro w'
              go_simp
              with_reducible rfl
            rotate_left
            · simp only [Act.put, List.setIfInBounds_toArray, List.set_cons_zero, List.set_cons_succ, i64_w, i32_w]
              rfl
            refine pure_ (i := 5) (N := some 61) (v := ?_) (a' := ?_) #[true, true, false, false, false, true, false, false, false, false] rfl rfl (any_of HT_.out (by kernel_rfl)) (fun _ _ _ h => h) (Or.inl ⟨by rfl, ?_⟩) ?_ ?_
            rotate_left
            · intro w'
              go_simp
              with_reducible rfl
            rotate_left
            · simp only [Act.put, List.setIfInBounds_toArray, List.set_cons_zero, List.set_cons_succ, i64_w, i32_w]
              rfl
            refine take_ (i := 2) (N := some 58) (v := ?_) (a' := ?_) #[true, true, true, false, false, true, false, false, false, false] rfl rfl (take_ofW HT_.out HW_.out (by kernel_rfl)) (fun _ _ _ h => h) (Or.inl ⟨by rfl, ?_⟩) hHeld ?_ ?_
            rotate_left
            · rintro w' ⟨s0, s1, s2, s3, s4, s5, s6⟩
              go_simp
              with_reducible rfl
            rotate_left
            · simp only [Act.put, List.setIfInBounds_toArray, List.set_cons_zero, List.set_cons_succ, i64_w, i32_w]
              rfl
            refine take_ (i := 6) (N := some 62) (v := ?_) (a' := ?_) #[true, true, true, false, false, true, true, false, false, false] rfl rfl (take_ofW HT_.out HW_.out (by kernel_rfl)) (fun _ _ _ h => h) (Or.inl ⟨by rfl, ?_⟩) hHeld ?_ ?_
            rotate_left
            · rintro w' ⟨s0, s1, s2, s3, s4, s5, s6⟩
              go_simp
              with_reducible rfl
            rotate_left
            · simp only [Act.put, List.setIfInBounds_toArray, List.set_cons_zero, List.set_cons_succ, i64_w, i32_w]
              rfl
            refine one_ (i := 3) (N := some 59) #[true, true, true, true, false, true, true, false, false, false] rfl rfl (one_of HT_.out (by kernel_rfl)) (by decide) (fun K hK => ?_)
            refine Kd.R_lit_step (Kd.int .i64) _ 3 ?hg (N := 59) ?hd (xs := ([a0_2] : List Int)) (inner := [.int .i64 a0_2]) (ok := fun _ => True) (okp := fun _ => True) ?hr ?hp (fun _ hk => hk) trivial (Below.refl _ _) (Nat.le_refl _) (by simp) ?_; (case hd => rfl); (case hg => rfl); (case hr => first | (go_simp; done) | (go_simp; rfl)); (case hp => exact (Reps.one (show Kd.M (Kd.int .i64) _ _ _ a0_2 [.int .i64 a0_2] from rfl) (Reps.none _ _)))
            intro v170 w85 ho86 hb hg_ hnew_
            clear hg_ hnew_
            (first | rw [← Ny169.out] at ho86 | (simp only [Int.reduceToNat] at ho86; rw [← Ny169.out] at ho86))
            have n0_ := Aside0.mk (Kd.R_below (kr_ HO142) hb)
            have n1_ := Aside0.mk (Kd.R_elder' (kr_ HO145) (Kd.R_base ho86) hb)
            have n2_ := Aside0.mk (Kd.R_below (kr_ HO148) hb)
            have n3_ := Aside0.mk (Kd.R_lower (Kd.R_new' ho86 (Kd.R_lt (kr_ HO145))) (below_size (bl1_ HB GE138)))
            have n4_ := Aside0.mk (blk_below (g := gb138) (o := .cells #[.int .i64 a0_0, .int .i64 a0_1, .int .i64 a0_2, .slice A0_3 l0_3.length c0_3, .int .i64 a0_4, .int .i64 a0_5, .int .i64 a0_6] 24 (0, 0)) (bk_ BK138) hb)
            have n5_ := Aside0.mk (below_step (bl1_ HB GE138) hb)
            clear HO142
            clear HO145
            clear HO148
            clear BK138
            clear HB
            have HO142 := n0_
            have HO145 := n1_
            have HO148 := n2_
            have HO171 := n3_
            have BK138 := n4_
            have HB := n5_
            clear n0_ n1_ n2_ n3_ n4_ n5_
            clear hb ho86
            obtain ⟨Ao87, co87, eo87⟩ := Kd.R_slice HO148.out
            (first | subst eo87 | (injection eo87 with f1_ f2_ f3_; have f4_ := f1_.symm; have f5_ := f3_.symm; clear f1_ f2_ f3_; subst f4_; subst f5_))
            obtain ⟨Ao88, co88, eo88⟩ := Kd.R_slice HO171.out
            (first | subst eo88 | (injection eo88 with f1_ f2_ f3_; have f4_ := f1_.symm; have f5_ := f3_.symm; clear f1_ f2_ f3_; subst f4_; subst f5_))
            refine hK.out _ _ ⟨(blk_cell BK138.out 0).trans rfl, (blk_cell BK138.out 1).trans rfl, (blk_cell BK138.out 2).trans rfl, (blk_cell BK138.out 3).trans rfl, (blk_cell BK138.out 4).trans rfl, (blk_cell BK138.out 5).trans rfl, (blk_cell BK138.out 6).trans rfl⟩ (fun hHeld => ?_)
            clear hK K
            refine norm_ (a' := ?_) ?_ ?_
            rotate_left
            · show Act.put _ (some 59) _ = _
              simp only [Act.put, List.setIfInBounds_toArray, List.set_cons_zero, List.set_cons_succ, i64_w, i32_w]
              rfl
            refine one_ (i := 4) (N := some 60) #[true, true, true, true, true, true, true, false, false, false] rfl rfl (one_of HT_.out (by kernel_rfl)) (by decide) (fun K hK => ?_)
            refine goes_ Try.func53 (by kernel_rfl) rfl #[.slice Ao87 t146.length co87, .slice Ao88 y169.length co88] (by rfl) rfl rfl ar_ ?_
            with_reducible refine (pdu_lay.calls _ _ t146 _ _ y169 t172 _ ?side1 ?side2 ?side3 ?side4 A68.out).mono ?_
            (case side1 => repeat (first | exact (Kd.R_reads' HO148.out).2.2 | (with_reducible refine Kd.C_alloc ?_ _) | (with_reducible refine Kd.C_drewN ?_ _) | (with_reducible refine Kd.C_drew ?_)))
            (case side2 => exact (Kd.R_reads' HO148.out).2.1)
            (case side3 => repeat (first | exact (Kd.R_reads' HO171.out).2.2 | (with_reducible refine Kd.C_alloc ?_ _) | (with_reducible refine Kd.C_drewN ?_ _) | (with_reducible refine Kd.C_drew ?_)))
            (case side4 => exact (Kd.R_reads' HO171.out).2.1)
            rintro e w89 ⟨v173, rfl, ho0, hb⟩
            refine ⟨_, rfl, ?_⟩
            have n0_ := Aside0.mk (Kd.R_elder' (kr_ HO142) (Kd.R_base ho0) hb)
            have n1_ := Aside0.mk (Kd.R_below (kr_ HO145) hb)
            have n2_ := Aside0.mk (Kd.R_elder' (kr_ HO148) (Kd.R_base ho0) hb)
            have n3_ := Aside0.mk (Kd.R_below (kr_ HO171) hb)
            have n4_ := Aside0.mk (Kd.R_lower (Kd.R_new' (Kd.R_new' ho0 (Kd.R_lt (kr_ HO142))) (Kd.R_lt (kr_ HO148))) (below_size (bl1_ HB GE138)))
            have n5_ := Aside0.mk (blk_below (g := gb138) (o := .cells #[.int .i64 a0_0, .int .i64 a0_1, .int .i64 a0_2, .slice A0_3 l0_3.length c0_3, .int .i64 a0_4, .int .i64 a0_5, .int .i64 a0_6] 24 (0, 0)) (bk_ BK138) hb)
            have n6_ := Aside0.mk (below_step (bl1_ HB GE138) hb)
            clear HO142
            clear HO145
            clear HO148
            clear HO171
            clear BK138
            clear HB
            have HO142 := n0_
            have HO145 := n1_
            have HO148 := n2_
            have HO171 := n3_
            have HO174 := n4_
            have BK138 := n5_
            have HB := n6_
            clear n0_ n1_ n2_ n3_ n4_ n5_ n6_
            (try clear hb)
            (try clear hb2)
            (try clear hk)
            (try clear hi)
            (try clear ho0)
            refine hK.out _ _ ⟨(blk_cell BK138.out 0).trans rfl, (blk_cell BK138.out 1).trans rfl, (blk_cell BK138.out 2).trans rfl, (blk_cell BK138.out 3).trans rfl, (blk_cell BK138.out 4).trans rfl, (blk_cell BK138.out 5).trans rfl, (blk_cell BK138.out 6).trans rfl⟩ (fun hHeld => ?_)
            clear hK K
            refine norm_ (a' := ?_) ?_ ?_
            rotate_left
            · show Act.put _ (some 60) _ = _
              simp only [Act.put, List.setIfInBounds_toArray, List.set_cons_zero, List.set_cons_succ, i64_w, i32_w]
              rfl
            refine one_ (i := 7) (N := some 63) #[true, true, true, true, true, true, true, true, false, false] rfl rfl (one_of HT_.out (by kernel_rfl)) (by decide) (fun K hK => ?_)
            refine goes_ Try.func55 (by kernel_rfl) rfl #[.slice A0_3 l0_3.length c0_3] (by rfl) rfl rfl ar_ ?_
            with_reducible refine (pdu_packed.calls k _ _ l0_3 t175 _ ?side1 ?side2 A69.out).mono ?_
            (case side1 => repeat (first | exact (Kd.C_below HR0_3.out HB.out) | (with_reducible refine Kd.C_alloc ?_ _) | (with_reducible refine Kd.C_drewN ?_ _) | (with_reducible refine Kd.C_drew ?_)))
            (case side2 => exact HC0_3.out)
            rintro e w90 ⟨v176, rfl, ho0, hb⟩
            refine ⟨_, rfl, ?_⟩
            have n0_ := Aside0.mk (Kd.R_elder' (kr_ HO142) (Kd.R_base ho0) hb)
            have n1_ := Aside0.mk (Kd.R_below (kr_ HO145) hb)
            have n2_ := Aside0.mk (Kd.R_elder' (kr_ HO148) (Kd.R_base ho0) hb)
            have n3_ := Aside0.mk (Kd.R_below (kr_ HO171) hb)
            have n4_ := Aside0.mk (Kd.R_elder' (kr_ HO174) (Kd.R_base ho0) hb)
            have n5_ := Aside0.mk (Kd.R_lower (Kd.R_new' (Kd.R_new' (Kd.R_new' ho0 (Kd.R_lt (kr_ HO142))) (Kd.R_lt (kr_ HO148))) (Kd.R_lt (kr_ HO174))) (below_size (bl1_ HB GE138)))
            have n6_ := Aside0.mk (blk_below (g := gb138) (o := .cells #[.int .i64 a0_0, .int .i64 a0_1, .int .i64 a0_2, .slice A0_3 l0_3.length c0_3, .int .i64 a0_4, .int .i64 a0_5, .int .i64 a0_6] 24 (0, 0)) (bk_ BK138) hb)
            have n7_ := Aside0.mk (below_step (bl1_ HB GE138) hb)
            clear HO142
            clear HO145
            clear HO148
            clear HO171
            clear HO174
            clear BK138
            clear HB
            have HO142 := n0_
            have HO145 := n1_
            have HO148 := n2_
            have HO171 := n3_
            have HO174 := n4_
            have HO177 := n5_
            have BK138 := n6_
            have HB := n7_
            clear n0_ n1_ n2_ n3_ n4_ n5_ n6_ n7_
            (try clear hb)
            (try clear hb2)
            (try clear hk)
            (try clear hi)
            (try clear ho0)
            obtain ⟨Ao91, co91, eo91⟩ := Kd.R_slice HO174.out
            (first | subst eo91 | (injection eo91 with f1_ f2_ f3_; have f4_ := f1_.symm; have f5_ := f3_.symm; clear f1_ f2_ f3_; subst f4_; subst f5_))
            obtain ⟨Ao92, co92, eo92⟩ := Kd.R_slice HO177.out
            (first | subst eo92 | (injection eo92 with f1_ f2_ f3_; have f4_ := f1_.symm; have f5_ := f3_.symm; clear f1_ f2_ f3_; subst f4_; subst f5_))
            refine hK.out _ _ ⟨(blk_cell BK138.out 0).trans rfl, (blk_cell BK138.out 1).trans rfl, (blk_cell BK138.out 2).trans rfl, (blk_cell BK138.out 3).trans rfl, (blk_cell BK138.out 4).trans rfl, (blk_cell BK138.out 5).trans rfl, (blk_cell BK138.out 6).trans rfl⟩ (fun hHeld => ?_)
            clear hK K
            refine norm_ (a' := ?_) ?_ ?_
            rotate_left
            · show Act.put _ (some 63) _ = _
              simp only [Act.put, List.setIfInBounds_toArray, List.set_cons_zero, List.set_cons_succ, i64_w, i32_w]
              rfl
            refine one_ (i := 8) (N := some 64) #[true, true, true, true, true, true, true, true, true, false] rfl rfl (one_of HT_.out (by kernel_rfl)) (by decide) (fun K hK => ?_)
            refine goes_ Try.func54 (by kernel_rfl) rfl #[.slice Ao91 t172.length co91, .slice Ao92 t175.length co92] (by rfl) rfl rfl ar_ ?_
            with_reducible refine (pdu_counted.calls (fun k_ => some k_ = (.slice Ao91 t172.length co91 : Value).ownBlock) (.slice Ao91 t172.length co91) t172 _ _ t175 t178 w _ ?side1 ?side2 ?side3 ?side4 A70.out).mono ?_
            (case side1 => repeat (first | (with_reducible first | exact HB.out | apply below_alloc | apply pw_below_drewN | apply below_drew1 | refine below_set ?_ GE138.out) | exact HB.out))
            (case side2 => exact Kd.R_tight rfl HO174.out)
            (case side3 => exact Kd.C_kept_own (HO177.out) (fun k_ hk_ hs_ => (hk_.2) hs_))
            (case side4 => exact (Kd.R_reads' HO177.out).2.1)
            rintro e w93 ⟨v179, rfl, ho0, hb, hkp⟩
            refine ⟨_, rfl, ?_⟩
            have n0_ := Aside0.mk (blk_kept (bk_ BK138) hkp (fun hs_ => (fun e_ => (Kd.R_ne HO174.out BK138.out (by decide)) e_) hs_))
            have n1_ := Aside0.mk (Kd.R_mono (ok' := fun k_ => some k_ ≠ (.slice Ao87 t146.length co87 : Value).ownBlock ∧ some k_ ≠ (.slice Ao92 t175.length co92 : Value).ownBlock ∧ some k_ ≠ (v179 : Value).ownBlock) (Kd.R_keptB (HO142.out) hkp (fun k_ hk_ hs_ => (hk_.1.2) hs_)) (fun k_ hk_ => ⟨hk_.1.1.1.2, hk_.1.2, fun e_ => Or.elim (ho0.1 k_ e_.symm) (fun hs_ => hk_.2.1 hs_) (fun hn_ => Nat.not_le.2 hk_.2.2 hn_)⟩))
            have n2_ := Aside0.mk (Kd.R_mono (ok' := fun k_ => some k_ ≠ (.slice Ao88 y169.length co88 : Value).ownBlock) (Kd.R_keptB ((Kd.R_apart' HO145.out (Kd.R_typed HO174.out) (by decide))) hkp (fun k_ hk_ hs_ => (hk_.2) hs_)) (fun k_ hk_ => hk_.1.1.2))
            have n3_ := Aside0.mk (Kd.R_mono (ok' := fun k_ => some k_ ≠ (.slice Ao80 y140.length co80 : Value).ownBlock ∧ some k_ ≠ (.slice Ao92 t175.length co92 : Value).ownBlock ∧ some k_ ≠ (v179 : Value).ownBlock) (Kd.R_keptB (HO148.out) hkp (fun k_ hk_ hs_ => (hk_.1.2) hs_)) (fun k_ hk_ => ⟨hk_.1.1.1.2, hk_.1.2, fun e_ => Or.elim (ho0.1 k_ e_.symm) (fun hs_ => hk_.2.1 hs_) (fun hn_ => Nat.not_le.2 hk_.2.2 hn_)⟩))
            have n4_ := Aside0.mk (Kd.R_mono (ok' := fun k_ => some k_ ≠ (.slice Ao81 y143.length co81 : Value).ownBlock) (Kd.R_keptB ((Kd.R_apart' HO171.out (Kd.R_typed HO174.out) (by decide))) hkp (fun k_ hk_ hs_ => (hk_.2) hs_)) (fun k_ hk_ => hk_.1.1.2))
            have n5_ := Aside0.mk (Kd.R_mono (ok' := fun k_ => some k_ ≠ (.slice Ao80 y140.length co80 : Value).ownBlock ∧ some k_ ≠ (.slice Ao87 t146.length co87 : Value).ownBlock ∧ some k_ ≠ (v179 : Value).ownBlock) (Kd.R_keptB (HO177.out) hkp (fun k_ hk_ hs_ => (hk_.2) hs_)) (fun k_ hk_ => ⟨hk_.1.1.1.2, hk_.1.1.2, fun e_ => Or.elim (ho0.1 k_ e_.symm) (fun hs_ => hk_.2.1 hs_) (fun hn_ => Nat.not_le.2 hk_.2.2 hn_)⟩))
            have n6_ := Aside0.mk (Kd.R_mono (ok' := fun k_ => some k_ ≠ (.slice Ao80 y140.length co80 : Value).ownBlock ∧ some k_ ≠ (.slice Ao87 t146.length co87 : Value).ownBlock ∧ some k_ ≠ (.slice Ao92 t175.length co92 : Value).ownBlock) ho0 (fun k_ hk_ => ⟨Or.elim hk_ (fun hs_ => fun e_ => (((HO142.out).1 k_ e_.symm).1.2) hs_) (fun hn_ => (Kd.fresh' (Kd.R_lt (kr_ HO142)) k_ hn_)), Or.elim hk_ (fun hs_ => fun e_ => (((HO148.out).1 k_ e_.symm).1.2) hs_) (fun hn_ => (Kd.fresh' (Kd.R_lt (kr_ HO148)) k_ hn_)), Or.elim hk_ (fun hs_ => fun e_ => (((HO177.out).1 k_ e_.symm).2) hs_) (fun hn_ => (Kd.fresh' (Kd.R_lt (kr_ HO177)) k_ hn_))⟩))
            have n7_ := Aside0.mk (hb)
            clear BK138
            clear HO142
            clear HO145
            clear HO148
            clear HO171
            clear HO177
            clear HB
            clear HO174
            have BK138 := n0_
            have HO142 := n1_
            have HO145 := n2_
            have HO148 := n3_
            have HO171 := n4_
            have HO177 := n5_
            have HO180 := n6_
            have HB := n7_
            clear n0_ n1_ n2_ n3_ n4_ n5_ n6_ n7_
            (try clear hb)
            (try clear hkp)
            (try clear ho0)
            refine hK.out _ _ ⟨(blk_cell BK138.out 0).trans rfl, (blk_cell BK138.out 1).trans rfl, (blk_cell BK138.out 2).trans rfl, (blk_cell BK138.out 3).trans rfl, (blk_cell BK138.out 4).trans rfl, (blk_cell BK138.out 5).trans rfl, (blk_cell BK138.out 6).trans rfl⟩ (fun hHeld => ?_)
            clear hK K
            refine norm_ (a' := ?_) ?_ ?_
            rotate_left
            · show Act.put _ (some 64) _ = _
              simp only [Act.put, List.setIfInBounds_toArray, List.set_cons_zero, List.set_cons_succ, i64_w, i32_w]
              rfl
            refine pure_ (i := 9) (N := some 5) (v := ?_) (a' := ?_) #[true, true, true, true, true, true, true, true, true, true] rfl rfl (any_of HT_.out (by kernel_rfl)) (fun _ _ _ h => h) (Or.inl ⟨by rfl, ?_⟩) ?_ ?_
            rotate_left
            · intro w'
              go_simp
              with_reducible rfl
            rotate_left
            · simp only [Act.put, List.setIfInBounds_toArray, List.set_cons_zero, List.set_cons_succ, i64_w, i32_w]
              rfl
            refine done_ (done_of HT_.out (by kernel_rfl)) ?_
            try go_wp2
            go_ret2
            exact ⟨_, by first | rfl | (simp [errW_none, errW_some] <;> rfl) | (simp [*, errW_none, errW_some] <;> rfl), by (with_reducible repeat (first | apply Kd.R_alloc | apply Kd.R_drewN | apply Kd.R_drew)); exact Kd.R_mono HO180.out (fun _ hk => trivial), bl1_ HB GE138⟩
          · rw [if_neg c67] at H
            have c67b0 : (a0_0 == 15) = false := beq_eq_false_iff_ne.mpr c67
            have c67b1 : (a0_0 != 15) = true := bne_iff_ne.mpr c67
            by_cases c94 : a0_0 = 23
            · rw [if_pos c94] at H
              have c94b0 : (a0_0 == 23) = true := beq_iff_eq.mpr c94
              have c94b1 : (a0_0 != 23) = false := bne_eq_false_iff_eq.mpr c94
              clear c94
              obtain ⟨y181, hy181⟩ : ∃ y_ : List Int, y_ = (([a0_2, a0_4, (l0_3.length : Int)] : List Int)) := ⟨_, rfl⟩
              replace H : ((pdu_lay.f t146 y181).bind fun t184 => ((pdu_lay.f ([] : List Int) l0_3).bind fun t187 => ((pdu_counted.f t184 t187).bind fun t190 => (some (t190, 0))))) = some (r1, r2) := by first | (rw [hy181]; with_reducible exact H) | (have H2_ := (Option.bind_some _ _).symm.trans H; rw [hy181]; with_reducible exact H2_) | (have H2_ := (Option.bind_some _ _).symm.trans H; with_reducible exact H2_) | with_reducible exact H | (rw [hy181]; exact H) | exact H
              have Ny181 := Aside0.mk hy181
              clear hy181
              replace H := Option.bind_eq_some_iff.mp H
              obtain ⟨t184, A950, H⟩ := H
              replace H : ((pdu_lay.f ([] : List Int) l0_3).bind fun t187 => ((pdu_counted.f t184 t187).bind fun t190 => (some (t190, 0)))) = some (r1, r2) := H
              have A95 := Aside0.mk A950
              clear A950
              replace H := Option.bind_eq_some_iff.mp H
              obtain ⟨t187, A960, H⟩ := H
              replace H : ((pdu_counted.f t184 t187).bind fun t190 => (some (t190, 0))) = some (r1, r2) := H
              have A96 := Aside0.mk A960
              clear A960
              replace H := Option.bind_eq_some_iff.mp H
              obtain ⟨t190, A970, H⟩ := H
              replace H : (some (t190, 0)) = some (r1, r2) := H
              have A97 := Aside0.mk A970
              clear A970
              simp only [Option.some.injEq, Prod.mk.injEq] at H
              obtain ⟨rfl, rfl⟩ := H
              go_enter Try.func30, Try.ntmps30
              go_wp2_with (first | ((with_reducible refine gate_dst (N := 1) rfl ?_); refine box_event ?hg (N := 1) ?hd (cs := #[.int .i64 a0_0, .int .i64 a0_1, .int .i64 a0_2, .slice A0_3 l0_3.length c0_3, .int .i64 a0_4, .int .i64 a0_5, .int .i64 a0_6]) (t := 24) ?hr ?_; (case hd => rfl); (case hg => rfl); (case hr => first | (go_simp; done) | (go_simp; rfl)); intro gb138 hg w98 hbox hb; have n0_ := Aside0.mk (below_step (bl0_ HB) hb); have n1_ := Aside0.mk (hbox); have n2_ := Aside0.mk ((by rw [hg]; exact (below_size (bl0_ HB)) : w.heap.size ≤ gb138)); have n3_ := Aside0.mk ((by rw [hg]; exact (below_size (bl0_ HB)) : w.heap.size ≤ gb138)); clear HB; have HB := n0_; have BK138 := n1_; have GW138 := n2_; have GE138 := n3_; clear n0_ n1_ n2_ n3_; clear hb hbox hg; have hcz99_0 : w98.cell? ⟨gb138, 0, none⟩ = some (.int .i64 a0_0) := (blk_cell BK138.out 0).trans rfl; have hcz99_1 : w98.cell? ⟨gb138, 1, none⟩ = some (.int .i64 a0_1) := (blk_cell BK138.out 1).trans rfl; have hcz99_2 : w98.cell? ⟨gb138, 2, none⟩ = some (.int .i64 a0_2) := (blk_cell BK138.out 2).trans rfl; have hcz99_3 : w98.cell? ⟨gb138, 3, none⟩ = some (.slice A0_3 l0_3.length c0_3) := (blk_cell BK138.out 3).trans rfl; have hcz99_4 : w98.cell? ⟨gb138, 4, none⟩ = some (.int .i64 a0_4) := (blk_cell BK138.out 4).trans rfl; have hcz99_5 : w98.cell? ⟨gb138, 5, none⟩ = some (.int .i64 a0_5) := (blk_cell BK138.out 5).trans rfl; have hcz99_6 : w98.cell? ⟨gb138, 6, none⟩ = some (.int .i64 a0_6) := (blk_cell BK138.out 6).trans rfl; have hfz99_0 := blk_frozen BK138.out 0; have hfz99_1 := blk_frozen BK138.out 1; have hfz99_2 := blk_frozen BK138.out 2; have hfz99_3 := blk_frozen BK138.out 3; have hfz99_4 := blk_frozen BK138.out 4; have hfz99_5 := blk_frozen BK138.out 5; have hfz99_6 := blk_frozen BK138.out 6) | ((with_reducible refine gate_callee (f := 29) rfl ?_); refine goesL_ (some 7) rfl rfl Try.func29 (by kernel_rfl) rfl #[.agg #[.int .i64 a0_0, .int .i64 a0_1, .int .i64 a0_2, .slice A0_3 l0_3.length c0_3, .int .i64 a0_4, .int .i64 a0_5, .int .i64 a0_6]] rfl ar_ ?_; (with_reducible refine (pdu_Check.calls k a0_0 a0_1 a0_2 _ _ l0_3 a0_4 a0_5 a0_6 t139 _ ?side1 ?side2 A2.out).mono ?_); (case side1 => repeat (first | exact (Kd.C_below HR0_3.out HB.out) | (with_reducible refine Kd.C_alloc ?_ _) | (with_reducible refine Kd.C_drewN ?_ _) | (with_reducible refine Kd.C_drew ?_))); (case side2 => exact HC0_3.out); rintro e w100 ⟨rfl, hb⟩; refine ⟨_, rfl, ?_⟩; have n0_ := Aside0.mk (blk_below (g := gb138) (o := .cells #[.int .i64 a0_0, .int .i64 a0_1, .int .i64 a0_2, .slice A0_3 l0_3.length c0_3, .int .i64 a0_4, .int .i64 a0_5, .int .i64 a0_6] 24 (0, 0)) (bk_ BK138) hb); have n1_ := Aside0.mk (below_step (bl1_ HB GE138) hb); clear BK138; clear HB; have BK138 := n0_; have HB := n1_; clear n0_ n1_; (try clear hb); (try clear hb2); (try clear hk); (try clear hi); have hcz101_0 : w100.cell? ⟨gb138, 0, none⟩ = some (.int .i64 a0_0) := (blk_cell BK138.out 0).trans rfl; have hcz101_1 : w100.cell? ⟨gb138, 1, none⟩ = some (.int .i64 a0_1) := (blk_cell BK138.out 1).trans rfl; have hcz101_2 : w100.cell? ⟨gb138, 2, none⟩ = some (.int .i64 a0_2) := (blk_cell BK138.out 2).trans rfl; have hcz101_3 : w100.cell? ⟨gb138, 3, none⟩ = some (.slice A0_3 l0_3.length c0_3) := (blk_cell BK138.out 3).trans rfl; have hcz101_4 : w100.cell? ⟨gb138, 4, none⟩ = some (.int .i64 a0_4) := (blk_cell BK138.out 4).trans rfl; have hcz101_5 : w100.cell? ⟨gb138, 5, none⟩ = some (.int .i64 a0_5) := (blk_cell BK138.out 5).trans rfl; have hcz101_6 : w100.cell? ⟨gb138, 6, none⟩ = some (.int .i64 a0_6) := (blk_cell BK138.out 6).trans rfl; have hfz101_0 := blk_frozen BK138.out 0; have hfz101_1 := blk_frozen BK138.out 1; have hfz101_2 := blk_frozen BK138.out 2; have hfz101_3 := blk_frozen BK138.out 3; have hfz101_4 := blk_frozen BK138.out 4; have hfz101_5 := blk_frozen BK138.out 5; have hfz101_6 := blk_frozen BK138.out 6) | ((with_reducible refine gate_dst (N := 14) rfl ?_); refine Kd.R_lit (Kd.int .u8) _ 5 ?hg (N := 14) ?hd (xs := ([(a0_0) % 256] : List Int)) (inner := [.int .u8 ((a0_0) % 256)]) (ok := fun _ => True) (okp := fun _ => True) ?hr ?hp (fun _ hk => hk) trivial (Below.refl _ _) (Nat.le_refl _) (by simp) ?_; (case hd => rfl); (case hg => rfl); (case hr => first | (go_simp; done) | (go_simp; rfl)); (case hp => exact (Reps.one (show Kd.M (Kd.int .u8) _ _ _ ((a0_0) % 256) [.int .u8 ((a0_0) % 256)] from rfl) (Reps.none _ _))); intro v141 w102 ho103 hb hg_ hnew_; clear hg_ hnew_; (first | rw [← Ny140.out] at ho103 | (simp only [Int.reduceToNat] at ho103; rw [← Ny140.out] at ho103)); have n0_ := Aside0.mk (Kd.R_lower ho103 (below_size (bl1_ HB GE138))); have n1_ := Aside0.mk (blk_below (g := gb138) (o := .cells #[.int .i64 a0_0, .int .i64 a0_1, .int .i64 a0_2, .slice A0_3 l0_3.length c0_3, .int .i64 a0_4, .int .i64 a0_5, .int .i64 a0_6] 24 (0, 0)) (bk_ BK138) hb); have n2_ := Aside0.mk (below_step (bl1_ HB GE138) hb); clear BK138; clear HB; have HO142 := n0_; have BK138 := n1_; have HB := n2_; clear n0_ n1_ n2_; clear hb ho103; have hcz104_0 : w102.cell? ⟨gb138, 0, none⟩ = some (.int .i64 a0_0) := (blk_cell BK138.out 0).trans rfl; have hcz104_1 : w102.cell? ⟨gb138, 1, none⟩ = some (.int .i64 a0_1) := (blk_cell BK138.out 1).trans rfl; have hcz104_2 : w102.cell? ⟨gb138, 2, none⟩ = some (.int .i64 a0_2) := (blk_cell BK138.out 2).trans rfl; have hcz104_3 : w102.cell? ⟨gb138, 3, none⟩ = some (.slice A0_3 l0_3.length c0_3) := (blk_cell BK138.out 3).trans rfl; have hcz104_4 : w102.cell? ⟨gb138, 4, none⟩ = some (.int .i64 a0_4) := (blk_cell BK138.out 4).trans rfl; have hcz104_5 : w102.cell? ⟨gb138, 5, none⟩ = some (.int .i64 a0_5) := (blk_cell BK138.out 5).trans rfl; have hcz104_6 : w102.cell? ⟨gb138, 6, none⟩ = some (.int .i64 a0_6) := (blk_cell BK138.out 6).trans rfl; have hfz104_0 := blk_frozen BK138.out 0; have hfz104_1 := blk_frozen BK138.out 1; have hfz104_2 := blk_frozen BK138.out 2; have hfz104_3 := blk_frozen BK138.out 3; have hfz104_4 := blk_frozen BK138.out 4; have hfz104_5 := blk_frozen BK138.out 5; have hfz104_6 := blk_frozen BK138.out 6) | ((with_reducible refine gate_dst (N := 17) rfl ?_); refine Kd.R_lit (Kd.int .i64) _ 3 ?hg (N := 17) ?hd (xs := ([a0_1] : List Int)) (inner := [.int .i64 a0_1]) (ok := fun _ => True) (okp := fun _ => True) ?hr ?hp (fun _ hk => hk) trivial (Below.refl _ _) (Nat.le_refl _) (by simp) ?_; (case hd => rfl); (case hg => rfl); (case hr => first | (go_simp; done) | (go_simp; rfl)); (case hp => exact (Reps.one (show Kd.M (Kd.int .i64) _ _ _ a0_1 [.int .i64 a0_1] from rfl) (Reps.none _ _))); intro v144 w105 ho106 hb hg_ hnew_; clear hg_ hnew_; (first | rw [← Ny143.out] at ho106 | (simp only [Int.reduceToNat] at ho106; rw [← Ny143.out] at ho106)); have n0_ := Aside0.mk (Kd.R_below (kr_ HO142) hb); have n1_ := Aside0.mk (Kd.R_lower ho106 (below_size (bl1_ HB GE138))); have n2_ := Aside0.mk (blk_below (g := gb138) (o := .cells #[.int .i64 a0_0, .int .i64 a0_1, .int .i64 a0_2, .slice A0_3 l0_3.length c0_3, .int .i64 a0_4, .int .i64 a0_5, .int .i64 a0_6] 24 (0, 0)) (bk_ BK138) hb); have n3_ := Aside0.mk (below_step (bl1_ HB GE138) hb); clear HO142; clear BK138; clear HB; have HO142 := n0_; have HO145 := n1_; have BK138 := n2_; have HB := n3_; clear n0_ n1_ n2_ n3_; clear hb ho106; obtain ⟨Ao107, co107, eo107⟩ := Kd.R_slice HO142.out; subst eo107; obtain ⟨Ao108, co108, eo108⟩ := Kd.R_slice HO145.out; subst eo108) | ((with_reducible refine gate_callee (f := 53) rfl ?_); refine goesL_ (some 18) rfl rfl Try.func53 (by kernel_rfl) rfl #[.slice Ao107 y140.length co107, .slice Ao108 y143.length co108] rfl ar_ ?_; (with_reducible refine (pdu_lay.calls _ _ y140 _ _ y143 t146 _ ?side1 ?side2 ?side3 ?side4 A4.out).mono ?_); (case side1 => repeat (first | exact (Kd.R_reads' HO142.out).2.2 | (with_reducible refine Kd.C_alloc ?_ _) | (with_reducible refine Kd.C_drewN ?_ _) | (with_reducible refine Kd.C_drew ?_))); (case side2 => exact (Kd.R_reads' HO142.out).2.1); (case side3 => repeat (first | exact (Kd.R_reads' HO145.out).2.2 | (with_reducible refine Kd.C_alloc ?_ _) | (with_reducible refine Kd.C_drewN ?_ _) | (with_reducible refine Kd.C_drew ?_))); (case side4 => exact (Kd.R_reads' HO145.out).2.1); rintro e w109 ⟨v147, rfl, ho0, hb⟩; refine ⟨_, rfl, ?_⟩; have n0_ := Aside0.mk (Kd.R_elder' (kr_ HO142) (Kd.R_base ho0) hb); have n1_ := Aside0.mk (Kd.R_below (kr_ HO145) hb); have n2_ := Aside0.mk (Kd.R_lower (Kd.R_new' ho0 (Kd.R_lt (kr_ HO142))) (below_size (bl1_ HB GE138))); have n3_ := Aside0.mk (blk_below (g := gb138) (o := .cells #[.int .i64 a0_0, .int .i64 a0_1, .int .i64 a0_2, .slice A0_3 l0_3.length c0_3, .int .i64 a0_4, .int .i64 a0_5, .int .i64 a0_6] 24 (0, 0)) (bk_ BK138) hb); have n4_ := Aside0.mk (below_step (bl1_ HB GE138) hb); clear HO142; clear HO145; clear BK138; clear HB; have HO142 := n0_; have HO145 := n1_; have HO148 := n2_; have BK138 := n3_; have HB := n4_; clear n0_ n1_ n2_ n3_ n4_; (try clear hb); (try clear hb2); (try clear hk); (try clear hi); (try clear ho0); have hcz110_0 : w109.cell? ⟨gb138, 0, none⟩ = some (.int .i64 a0_0) := (blk_cell BK138.out 0).trans rfl; have hcz110_1 : w109.cell? ⟨gb138, 1, none⟩ = some (.int .i64 a0_1) := (blk_cell BK138.out 1).trans rfl; have hcz110_2 : w109.cell? ⟨gb138, 2, none⟩ = some (.int .i64 a0_2) := (blk_cell BK138.out 2).trans rfl; have hcz110_3 : w109.cell? ⟨gb138, 3, none⟩ = some (.slice A0_3 l0_3.length c0_3) := (blk_cell BK138.out 3).trans rfl; have hcz110_4 : w109.cell? ⟨gb138, 4, none⟩ = some (.int .i64 a0_4) := (blk_cell BK138.out 4).trans rfl; have hcz110_5 : w109.cell? ⟨gb138, 5, none⟩ = some (.int .i64 a0_5) := (blk_cell BK138.out 5).trans rfl; have hcz110_6 : w109.cell? ⟨gb138, 6, none⟩ = some (.int .i64 a0_6) := (blk_cell BK138.out 6).trans rfl; have hfz110_0 := blk_frozen BK138.out 0; have hfz110_1 := blk_frozen BK138.out 1; have hfz110_2 := blk_frozen BK138.out 2; have hfz110_3 := blk_frozen BK138.out 3; have hfz110_4 := blk_frozen BK138.out 4; have hfz110_5 := blk_frozen BK138.out 5; have hfz110_6 := blk_frozen BK138.out 6) | ((with_reducible refine gate_dst (N := 75) rfl ?_); refine Kd.R_lit (Kd.int .i64) _ 3 ?hg (N := 75) ?hd (xs := ([a0_2, a0_4, (l0_3.length : Int)] : List Int)) (inner := [.int .i64 a0_2, .int .i64 a0_4, .int .i64 (l0_3.length : Int)]) (ok := fun _ => True) (okp := fun _ => True) ?hr ?hp (fun _ hk => hk) trivial (Below.refl _ _) (Nat.le_refl _) (by simp) ?_; (case hd => rfl); (case hg => rfl); (case hr => first | (go_simp; done) | (go_simp; rfl)); (case hp => exact (Reps.one (show Kd.M (Kd.int .i64) _ _ _ a0_2 [.int .i64 a0_2] from rfl) (Reps.one (show Kd.M (Kd.int .i64) _ _ _ a0_4 [.int .i64 a0_4] from rfl) (Reps.one (show Kd.M (Kd.int .i64) _ _ _ (l0_3.length : Int) [.int .i64 (l0_3.length : Int)] from rfl) (Reps.none _ _))))); intro v182 w111 ho112 hb hg_ hnew_; clear hg_ hnew_; (first | rw [← Ny181.out] at ho112 | (simp only [Int.reduceToNat] at ho112; rw [← Ny181.out] at ho112)); have n0_ := Aside0.mk (Kd.R_below (kr_ HO142) hb); have n1_ := Aside0.mk (Kd.R_elder' (kr_ HO145) (Kd.R_base ho112) hb); have n2_ := Aside0.mk (Kd.R_below (kr_ HO148) hb); have n3_ := Aside0.mk (Kd.R_lower (Kd.R_new' ho112 (Kd.R_lt (kr_ HO145))) (below_size (bl1_ HB GE138))); have n4_ := Aside0.mk (blk_below (g := gb138) (o := .cells #[.int .i64 a0_0, .int .i64 a0_1, .int .i64 a0_2, .slice A0_3 l0_3.length c0_3, .int .i64 a0_4, .int .i64 a0_5, .int .i64 a0_6] 24 (0, 0)) (bk_ BK138) hb); have n5_ := Aside0.mk (below_step (bl1_ HB GE138) hb); clear HO142; clear HO145; clear HO148; clear BK138; clear HB; have HO142 := n0_; have HO145 := n1_; have HO148 := n2_; have HO183 := n3_; have BK138 := n4_; have HB := n5_; clear n0_ n1_ n2_ n3_ n4_ n5_; clear hb ho112; obtain ⟨Ao113, co113, eo113⟩ := Kd.R_slice HO148.out; subst eo113; obtain ⟨Ao114, co114, eo114⟩ := Kd.R_slice HO183.out; subst eo114) | ((with_reducible refine gate_callee (f := 53) rfl ?_); refine goesL_ (some 76) rfl rfl Try.func53 (by kernel_rfl) rfl #[.slice Ao113 t146.length co113, .slice Ao114 y181.length co114] rfl ar_ ?_; (with_reducible refine (pdu_lay.calls _ _ t146 _ _ y181 t184 _ ?side1 ?side2 ?side3 ?side4 A95.out).mono ?_); (case side1 => repeat (first | exact (Kd.R_reads' HO148.out).2.2 | (with_reducible refine Kd.C_alloc ?_ _) | (with_reducible refine Kd.C_drewN ?_ _) | (with_reducible refine Kd.C_drew ?_))); (case side2 => exact (Kd.R_reads' HO148.out).2.1); (case side3 => repeat (first | exact (Kd.R_reads' HO183.out).2.2 | (with_reducible refine Kd.C_alloc ?_ _) | (with_reducible refine Kd.C_drewN ?_ _) | (with_reducible refine Kd.C_drew ?_))); (case side4 => exact (Kd.R_reads' HO183.out).2.1); rintro e w115 ⟨v185, rfl, ho0, hb⟩; refine ⟨_, rfl, ?_⟩; have n0_ := Aside0.mk (Kd.R_elder' (kr_ HO142) (Kd.R_base ho0) hb); have n1_ := Aside0.mk (Kd.R_below (kr_ HO145) hb); have n2_ := Aside0.mk (Kd.R_elder' (kr_ HO148) (Kd.R_base ho0) hb); have n3_ := Aside0.mk (Kd.R_below (kr_ HO183) hb); have n4_ := Aside0.mk (Kd.R_lower (Kd.R_new' (Kd.R_new' ho0 (Kd.R_lt (kr_ HO142))) (Kd.R_lt (kr_ HO148))) (below_size (bl1_ HB GE138))); have n5_ := Aside0.mk (blk_below (g := gb138) (o := .cells #[.int .i64 a0_0, .int .i64 a0_1, .int .i64 a0_2, .slice A0_3 l0_3.length c0_3, .int .i64 a0_4, .int .i64 a0_5, .int .i64 a0_6] 24 (0, 0)) (bk_ BK138) hb); have n6_ := Aside0.mk (below_step (bl1_ HB GE138) hb); clear HO142; clear HO145; clear HO148; clear HO183; clear BK138; clear HB; have HO142 := n0_; have HO145 := n1_; have HO148 := n2_; have HO183 := n3_; have HO186 := n4_; have BK138 := n5_; have HB := n6_; clear n0_ n1_ n2_ n3_ n4_ n5_ n6_; (try clear hb); (try clear hb2); (try clear hk); (try clear hi); (try clear ho0); have hcz116_0 : w115.cell? ⟨gb138, 0, none⟩ = some (.int .i64 a0_0) := (blk_cell BK138.out 0).trans rfl; have hcz116_1 : w115.cell? ⟨gb138, 1, none⟩ = some (.int .i64 a0_1) := (blk_cell BK138.out 1).trans rfl; have hcz116_2 : w115.cell? ⟨gb138, 2, none⟩ = some (.int .i64 a0_2) := (blk_cell BK138.out 2).trans rfl; have hcz116_3 : w115.cell? ⟨gb138, 3, none⟩ = some (.slice A0_3 l0_3.length c0_3) := (blk_cell BK138.out 3).trans rfl; have hcz116_4 : w115.cell? ⟨gb138, 4, none⟩ = some (.int .i64 a0_4) := (blk_cell BK138.out 4).trans rfl; have hcz116_5 : w115.cell? ⟨gb138, 5, none⟩ = some (.int .i64 a0_5) := (blk_cell BK138.out 5).trans rfl; have hcz116_6 : w115.cell? ⟨gb138, 6, none⟩ = some (.int .i64 a0_6) := (blk_cell BK138.out 6).trans rfl; have hfz116_0 := blk_frozen BK138.out 0; have hfz116_1 := blk_frozen BK138.out 1; have hfz116_2 := blk_frozen BK138.out 2; have hfz116_3 := blk_frozen BK138.out 3; have hfz116_4 := blk_frozen BK138.out 4; have hfz116_5 := blk_frozen BK138.out 5; have hfz116_6 := blk_frozen BK138.out 6) | ((with_reducible refine gate_callee (f := 53) rfl ?_); refine goesL_ (some 80) rfl rfl Try.func53 (by kernel_rfl) rfl #[.slice none 0 0, .slice A0_3 l0_3.length c0_3] rfl ar_ ?_; (refine (pdu_lay.calls _ _ ([] : List Int) _ _ l0_3 t187 _ ?side1 ?side2 ?side3 ?side4 A96.out).mono ?_); (case side1 => exact Kd.C_nil _ _); (case side2 => exact Nat.le_refl _); (case side3 => repeat (first | exact (Kd.C_below HR0_3.out HB.out) | (with_reducible refine Kd.C_alloc ?_ _) | (with_reducible refine Kd.C_drewN ?_ _) | (with_reducible refine Kd.C_drew ?_))); (case side4 => exact HC0_3.out); rintro e w117 ⟨v188, rfl, ho0, hb⟩; refine ⟨_, rfl, ?_⟩; have n0_ := Aside0.mk (Kd.R_elder' (kr_ HO142) (Kd.R_base ho0) hb); have n1_ := Aside0.mk (Kd.R_below (kr_ HO145) hb); have n2_ := Aside0.mk (Kd.R_elder' (kr_ HO148) (Kd.R_base ho0) hb); have n3_ := Aside0.mk (Kd.R_below (kr_ HO183) hb); have n4_ := Aside0.mk (Kd.R_elder' (kr_ HO186) (Kd.R_base ho0) hb); have n5_ := Aside0.mk (Kd.R_lower (Kd.R_new' (Kd.R_new' (Kd.R_new' ho0 (Kd.R_lt (kr_ HO142))) (Kd.R_lt (kr_ HO148))) (Kd.R_lt (kr_ HO186))) (below_size (bl1_ HB GE138))); have n6_ := Aside0.mk (blk_below (g := gb138) (o := .cells #[.int .i64 a0_0, .int .i64 a0_1, .int .i64 a0_2, .slice A0_3 l0_3.length c0_3, .int .i64 a0_4, .int .i64 a0_5, .int .i64 a0_6] 24 (0, 0)) (bk_ BK138) hb); have n7_ := Aside0.mk (below_step (bl1_ HB GE138) hb); clear HO142; clear HO145; clear HO148; clear HO183; clear HO186; clear BK138; clear HB; have HO142 := n0_; have HO145 := n1_; have HO148 := n2_; have HO183 := n3_; have HO186 := n4_; have HO189 := n5_; have BK138 := n6_; have HB := n7_; clear n0_ n1_ n2_ n3_ n4_ n5_ n6_ n7_; (try clear hb); (try clear hb2); (try clear hk); (try clear hi); (try clear ho0); obtain ⟨Ao118, co118, eo118⟩ := Kd.R_slice HO186.out; subst eo118; obtain ⟨Ao119, co119, eo119⟩ := Kd.R_slice HO189.out; subst eo119) | ((with_reducible refine gate_callee (f := 54) rfl ?_); refine goesL_ (some 81) rfl rfl Try.func54 (by kernel_rfl) rfl #[.slice Ao118 t184.length co118, .slice Ao119 t187.length co119] rfl ar_ ?_; (with_reducible refine (pdu_counted.calls (fun k_ => some k_ = (.slice Ao118 t184.length co118 : Value).ownBlock) (.slice Ao118 t184.length co118) t184 _ _ t187 t190 w _ ?side1 ?side2 ?side3 ?side4 A97.out).mono ?_); (case side1 => repeat (first | (with_reducible first | exact HB.out | apply below_alloc | apply pw_below_drewN | apply below_drew1 | refine below_set ?_ GE138.out) | exact HB.out)); (case side2 => exact Kd.R_tight rfl HO186.out); (case side3 => exact Kd.C_kept_own (HO189.out) (fun k_ hk_ hs_ => (hk_.2) hs_)); (case side4 => exact (Kd.R_reads' HO189.out).2.1); rintro e w120 ⟨v191, rfl, ho0, hb, hkp⟩; refine ⟨_, rfl, ?_⟩; have n0_ := Aside0.mk (blk_kept (bk_ BK138) hkp (fun hs_ => (fun e_ => (Kd.R_ne HO186.out BK138.out (by decide)) e_) hs_)); have n1_ := Aside0.mk (Kd.R_mono (ok' := fun k_ => some k_ ≠ (.slice Ao113 t146.length co113 : Value).ownBlock ∧ some k_ ≠ (.slice Ao119 t187.length co119 : Value).ownBlock ∧ some k_ ≠ (v191 : Value).ownBlock) (Kd.R_keptB (HO142.out) hkp (fun k_ hk_ hs_ => (hk_.1.2) hs_)) (fun k_ hk_ => ⟨hk_.1.1.1.2, hk_.1.2, fun e_ => Or.elim (ho0.1 k_ e_.symm) (fun hs_ => hk_.2.1 hs_) (fun hn_ => Nat.not_le.2 hk_.2.2 hn_)⟩)); have n2_ := Aside0.mk (Kd.R_mono (ok' := fun k_ => some k_ ≠ (.slice Ao114 y181.length co114 : Value).ownBlock) (Kd.R_keptB ((Kd.R_apart' HO145.out (Kd.R_typed HO186.out) (by decide))) hkp (fun k_ hk_ hs_ => (hk_.2) hs_)) (fun k_ hk_ => hk_.1.1.2)); have n3_ := Aside0.mk (Kd.R_mono (ok' := fun k_ => some k_ ≠ (.slice Ao107 y140.length co107 : Value).ownBlock ∧ some k_ ≠ (.slice Ao119 t187.length co119 : Value).ownBlock ∧ some k_ ≠ (v191 : Value).ownBlock) (Kd.R_keptB (HO148.out) hkp (fun k_ hk_ hs_ => (hk_.1.2) hs_)) (fun k_ hk_ => ⟨hk_.1.1.1.2, hk_.1.2, fun e_ => Or.elim (ho0.1 k_ e_.symm) (fun hs_ => hk_.2.1 hs_) (fun hn_ => Nat.not_le.2 hk_.2.2 hn_)⟩)); have n4_ := Aside0.mk (Kd.R_mono (ok' := fun k_ => some k_ ≠ (.slice Ao108 y143.length co108 : Value).ownBlock) (Kd.R_keptB ((Kd.R_apart' HO183.out (Kd.R_typed HO186.out) (by decide))) hkp (fun k_ hk_ hs_ => (hk_.2) hs_)) (fun k_ hk_ => hk_.1.1.2)); have n5_ := Aside0.mk (Kd.R_mono (ok' := fun k_ => some k_ ≠ (.slice Ao107 y140.length co107 : Value).ownBlock ∧ some k_ ≠ (.slice Ao113 t146.length co113 : Value).ownBlock ∧ some k_ ≠ (v191 : Value).ownBlock) (Kd.R_keptB (HO189.out) hkp (fun k_ hk_ hs_ => (hk_.2) hs_)) (fun k_ hk_ => ⟨hk_.1.1.1.2, hk_.1.1.2, fun e_ => Or.elim (ho0.1 k_ e_.symm) (fun hs_ => hk_.2.1 hs_) (fun hn_ => Nat.not_le.2 hk_.2.2 hn_)⟩)); have n6_ := Aside0.mk (Kd.R_mono (ok' := fun k_ => some k_ ≠ (.slice Ao107 y140.length co107 : Value).ownBlock ∧ some k_ ≠ (.slice Ao113 t146.length co113 : Value).ownBlock ∧ some k_ ≠ (.slice Ao119 t187.length co119 : Value).ownBlock) ho0 (fun k_ hk_ => ⟨Or.elim hk_ (fun hs_ => fun e_ => (((HO142.out).1 k_ e_.symm).1.2) hs_) (fun hn_ => (Kd.fresh' (Kd.R_lt (kr_ HO142)) k_ hn_)), Or.elim hk_ (fun hs_ => fun e_ => (((HO148.out).1 k_ e_.symm).1.2) hs_) (fun hn_ => (Kd.fresh' (Kd.R_lt (kr_ HO148)) k_ hn_)), Or.elim hk_ (fun hs_ => fun e_ => (((HO189.out).1 k_ e_.symm).2) hs_) (fun hn_ => (Kd.fresh' (Kd.R_lt (kr_ HO189)) k_ hn_))⟩)); have n7_ := Aside0.mk (hb); clear BK138; clear HO142; clear HO145; clear HO148; clear HO183; clear HO189; clear HB; clear HO186; have BK138 := n0_; have HO142 := n1_; have HO145 := n2_; have HO148 := n3_; have HO183 := n4_; have HO189 := n5_; have HO192 := n6_; have HB := n7_; clear n0_ n1_ n2_ n3_ n4_ n5_ n6_ n7_; (try clear hb); (try clear hkp); (try clear ho0)))
              go_ret2
              exact ⟨_, by first | rfl | (simp [errW_none, errW_some] <;> rfl) | (simp [*, errW_none, errW_some] <;> rfl), by (with_reducible repeat (first | apply Kd.R_alloc | apply Kd.R_drewN | apply Kd.R_drew)); exact Kd.R_mono HO192.out (fun _ hk => trivial), bl1_ HB GE138⟩
            · rw [if_neg c94] at H
              have c94b0 : (a0_0 == 23) = false := beq_eq_false_iff_ne.mpr c94
              have c94b1 : (a0_0 != 23) = true := bne_iff_ne.mpr c94
              by_cases c121 : a0_0 = 16
              · rw [if_pos c121] at H
                have c121b0 : (a0_0 == 16) = true := beq_iff_eq.mpr c121
                have c121b1 : (a0_0 != 16) = false := bne_eq_false_iff_eq.mpr c121
                clear c121
                obtain ⟨y193, hy193⟩ : ∃ y_ : List Int, y_ = (([a0_2] : List Int)) := ⟨_, rfl⟩
                replace H : ((pdu_lay.f t146 y193).bind fun t196 => ((pdu_lay.f ([] : List Int) l0_3).bind fun t199 => ((pdu_counted.f t196 t199).bind fun t202 => (some (t202, 0))))) = some (r1, r2) := by first | (rw [hy193]; with_reducible exact H) | (have H2_ := (Option.bind_some _ _).symm.trans H; rw [hy193]; with_reducible exact H2_) | (have H2_ := (Option.bind_some _ _).symm.trans H; with_reducible exact H2_) | with_reducible exact H | (rw [hy193]; exact H) | exact H
                have Ny193 := Aside0.mk hy193
                clear hy193
                replace H := Option.bind_eq_some_iff.mp H
                obtain ⟨t196, A1220, H⟩ := H
                replace H : ((pdu_lay.f ([] : List Int) l0_3).bind fun t199 => ((pdu_counted.f t196 t199).bind fun t202 => (some (t202, 0)))) = some (r1, r2) := H
                have A122 := Aside0.mk A1220
                clear A1220
                replace H := Option.bind_eq_some_iff.mp H
                obtain ⟨t199, A1230, H⟩ := H
                replace H : ((pdu_counted.f t196 t199).bind fun t202 => (some (t202, 0))) = some (r1, r2) := H
                have A123 := Aside0.mk A1230
                clear A1230
                replace H := Option.bind_eq_some_iff.mp H
                obtain ⟨t202, A1240, H⟩ := H
                replace H : (some (t202, 0)) = some (r1, r2) := H
                have A124 := Aside0.mk A1240
                clear A1240
                simp only [Option.some.injEq, Prod.mk.injEq] at H
                obtain ⟨rfl, rfl⟩ := H
                go_enter Try.func30, Try.ntmps30
                try go_wp2_with (first | ((with_reducible refine gate_dst (N := 1) rfl ?_); refine box_event ?hg (N := 1) ?hd (cs := #[.int .i64 a0_0, .int .i64 a0_1, .int .i64 a0_2, .slice A0_3 l0_3.length c0_3, .int .i64 a0_4, .int .i64 a0_5, .int .i64 a0_6]) (t := 24) ?hr ?_; (case hd => rfl); (case hg => rfl); (case hr => first | (go_simp; done) | (go_simp; rfl)); intro gb138 hg w125 hbox hb; have n0_ := Aside0.mk (below_step (bl0_ HB) hb); have n1_ := Aside0.mk (hbox); have n2_ := Aside0.mk ((by rw [hg]; exact (below_size (bl0_ HB)) : w.heap.size ≤ gb138)); have n3_ := Aside0.mk ((by rw [hg]; exact (below_size (bl0_ HB)) : w.heap.size ≤ gb138)); clear HB; have HB := n0_; have BK138 := n1_; have GW138 := n2_; have GE138 := n3_; clear n0_ n1_ n2_ n3_; clear hb hbox hg; have hcz126_0 : w125.cell? ⟨gb138, 0, none⟩ = some (.int .i64 a0_0) := (blk_cell BK138.out 0).trans rfl; have hcz126_1 : w125.cell? ⟨gb138, 1, none⟩ = some (.int .i64 a0_1) := (blk_cell BK138.out 1).trans rfl; have hcz126_2 : w125.cell? ⟨gb138, 2, none⟩ = some (.int .i64 a0_2) := (blk_cell BK138.out 2).trans rfl; have hcz126_3 : w125.cell? ⟨gb138, 3, none⟩ = some (.slice A0_3 l0_3.length c0_3) := (blk_cell BK138.out 3).trans rfl; have hcz126_4 : w125.cell? ⟨gb138, 4, none⟩ = some (.int .i64 a0_4) := (blk_cell BK138.out 4).trans rfl; have hcz126_5 : w125.cell? ⟨gb138, 5, none⟩ = some (.int .i64 a0_5) := (blk_cell BK138.out 5).trans rfl; have hcz126_6 : w125.cell? ⟨gb138, 6, none⟩ = some (.int .i64 a0_6) := (blk_cell BK138.out 6).trans rfl; have hfz126_0 := blk_frozen BK138.out 0; have hfz126_1 := blk_frozen BK138.out 1; have hfz126_2 := blk_frozen BK138.out 2; have hfz126_3 := blk_frozen BK138.out 3; have hfz126_4 := blk_frozen BK138.out 4; have hfz126_5 := blk_frozen BK138.out 5; have hfz126_6 := blk_frozen BK138.out 6) | ((with_reducible refine gate_callee (f := 29) rfl ?_); refine goesL_ (some 7) rfl rfl Try.func29 (by kernel_rfl) rfl #[.agg #[.int .i64 a0_0, .int .i64 a0_1, .int .i64 a0_2, .slice A0_3 l0_3.length c0_3, .int .i64 a0_4, .int .i64 a0_5, .int .i64 a0_6]] rfl ar_ ?_; (with_reducible refine (pdu_Check.calls k a0_0 a0_1 a0_2 _ _ l0_3 a0_4 a0_5 a0_6 t139 _ ?side1 ?side2 A2.out).mono ?_); (case side1 => repeat (first | exact (Kd.C_below HR0_3.out HB.out) | (with_reducible refine Kd.C_alloc ?_ _) | (with_reducible refine Kd.C_drewN ?_ _) | (with_reducible refine Kd.C_drew ?_))); (case side2 => exact HC0_3.out); rintro e w127 ⟨rfl, hb⟩; refine ⟨_, rfl, ?_⟩; have n0_ := Aside0.mk (blk_below (g := gb138) (o := .cells #[.int .i64 a0_0, .int .i64 a0_1, .int .i64 a0_2, .slice A0_3 l0_3.length c0_3, .int .i64 a0_4, .int .i64 a0_5, .int .i64 a0_6] 24 (0, 0)) (bk_ BK138) hb); have n1_ := Aside0.mk (below_step (bl1_ HB GE138) hb); clear BK138; clear HB; have BK138 := n0_; have HB := n1_; clear n0_ n1_; (try clear hb); (try clear hb2); (try clear hk); (try clear hi); have hcz128_0 : w127.cell? ⟨gb138, 0, none⟩ = some (.int .i64 a0_0) := (blk_cell BK138.out 0).trans rfl; have hcz128_1 : w127.cell? ⟨gb138, 1, none⟩ = some (.int .i64 a0_1) := (blk_cell BK138.out 1).trans rfl; have hcz128_2 : w127.cell? ⟨gb138, 2, none⟩ = some (.int .i64 a0_2) := (blk_cell BK138.out 2).trans rfl; have hcz128_3 : w127.cell? ⟨gb138, 3, none⟩ = some (.slice A0_3 l0_3.length c0_3) := (blk_cell BK138.out 3).trans rfl; have hcz128_4 : w127.cell? ⟨gb138, 4, none⟩ = some (.int .i64 a0_4) := (blk_cell BK138.out 4).trans rfl; have hcz128_5 : w127.cell? ⟨gb138, 5, none⟩ = some (.int .i64 a0_5) := (blk_cell BK138.out 5).trans rfl; have hcz128_6 : w127.cell? ⟨gb138, 6, none⟩ = some (.int .i64 a0_6) := (blk_cell BK138.out 6).trans rfl; have hfz128_0 := blk_frozen BK138.out 0; have hfz128_1 := blk_frozen BK138.out 1; have hfz128_2 := blk_frozen BK138.out 2; have hfz128_3 := blk_frozen BK138.out 3; have hfz128_4 := blk_frozen BK138.out 4; have hfz128_5 := blk_frozen BK138.out 5; have hfz128_6 := blk_frozen BK138.out 6) | ((with_reducible refine gate_dst (N := 14) rfl ?_); refine Kd.R_lit (Kd.int .u8) _ 5 ?hg (N := 14) ?hd (xs := ([(a0_0) % 256] : List Int)) (inner := [.int .u8 ((a0_0) % 256)]) (ok := fun _ => True) (okp := fun _ => True) ?hr ?hp (fun _ hk => hk) trivial (Below.refl _ _) (Nat.le_refl _) (by simp) ?_; (case hd => rfl); (case hg => rfl); (case hr => first | (go_simp; done) | (go_simp; rfl)); (case hp => exact (Reps.one (show Kd.M (Kd.int .u8) _ _ _ ((a0_0) % 256) [.int .u8 ((a0_0) % 256)] from rfl) (Reps.none _ _))); intro v141 w129 ho130 hb hg_ hnew_; clear hg_ hnew_; (first | rw [← Ny140.out] at ho130 | (simp only [Int.reduceToNat] at ho130; rw [← Ny140.out] at ho130)); have n0_ := Aside0.mk (Kd.R_lower ho130 (below_size (bl1_ HB GE138))); have n1_ := Aside0.mk (blk_below (g := gb138) (o := .cells #[.int .i64 a0_0, .int .i64 a0_1, .int .i64 a0_2, .slice A0_3 l0_3.length c0_3, .int .i64 a0_4, .int .i64 a0_5, .int .i64 a0_6] 24 (0, 0)) (bk_ BK138) hb); have n2_ := Aside0.mk (below_step (bl1_ HB GE138) hb); clear BK138; clear HB; have HO142 := n0_; have BK138 := n1_; have HB := n2_; clear n0_ n1_ n2_; clear hb ho130; have hcz131_0 : w129.cell? ⟨gb138, 0, none⟩ = some (.int .i64 a0_0) := (blk_cell BK138.out 0).trans rfl; have hcz131_1 : w129.cell? ⟨gb138, 1, none⟩ = some (.int .i64 a0_1) := (blk_cell BK138.out 1).trans rfl; have hcz131_2 : w129.cell? ⟨gb138, 2, none⟩ = some (.int .i64 a0_2) := (blk_cell BK138.out 2).trans rfl; have hcz131_3 : w129.cell? ⟨gb138, 3, none⟩ = some (.slice A0_3 l0_3.length c0_3) := (blk_cell BK138.out 3).trans rfl; have hcz131_4 : w129.cell? ⟨gb138, 4, none⟩ = some (.int .i64 a0_4) := (blk_cell BK138.out 4).trans rfl; have hcz131_5 : w129.cell? ⟨gb138, 5, none⟩ = some (.int .i64 a0_5) := (blk_cell BK138.out 5).trans rfl; have hcz131_6 : w129.cell? ⟨gb138, 6, none⟩ = some (.int .i64 a0_6) := (blk_cell BK138.out 6).trans rfl; have hfz131_0 := blk_frozen BK138.out 0; have hfz131_1 := blk_frozen BK138.out 1; have hfz131_2 := blk_frozen BK138.out 2; have hfz131_3 := blk_frozen BK138.out 3; have hfz131_4 := blk_frozen BK138.out 4; have hfz131_5 := blk_frozen BK138.out 5; have hfz131_6 := blk_frozen BK138.out 6) | ((with_reducible refine gate_dst (N := 17) rfl ?_); refine Kd.R_lit (Kd.int .i64) _ 3 ?hg (N := 17) ?hd (xs := ([a0_1] : List Int)) (inner := [.int .i64 a0_1]) (ok := fun _ => True) (okp := fun _ => True) ?hr ?hp (fun _ hk => hk) trivial (Below.refl _ _) (Nat.le_refl _) (by simp) ?_; (case hd => rfl); (case hg => rfl); (case hr => first | (go_simp; done) | (go_simp; rfl)); (case hp => exact (Reps.one (show Kd.M (Kd.int .i64) _ _ _ a0_1 [.int .i64 a0_1] from rfl) (Reps.none _ _))); intro v144 w132 ho133 hb hg_ hnew_; clear hg_ hnew_; (first | rw [← Ny143.out] at ho133 | (simp only [Int.reduceToNat] at ho133; rw [← Ny143.out] at ho133)); have n0_ := Aside0.mk (Kd.R_below (kr_ HO142) hb); have n1_ := Aside0.mk (Kd.R_lower ho133 (below_size (bl1_ HB GE138))); have n2_ := Aside0.mk (blk_below (g := gb138) (o := .cells #[.int .i64 a0_0, .int .i64 a0_1, .int .i64 a0_2, .slice A0_3 l0_3.length c0_3, .int .i64 a0_4, .int .i64 a0_5, .int .i64 a0_6] 24 (0, 0)) (bk_ BK138) hb); have n3_ := Aside0.mk (below_step (bl1_ HB GE138) hb); clear HO142; clear BK138; clear HB; have HO142 := n0_; have HO145 := n1_; have BK138 := n2_; have HB := n3_; clear n0_ n1_ n2_ n3_; clear hb ho133; obtain ⟨Ao134, co134, eo134⟩ := Kd.R_slice HO142.out; subst eo134; obtain ⟨Ao135, co135, eo135⟩ := Kd.R_slice HO145.out; subst eo135) | ((with_reducible refine gate_callee (f := 53) rfl ?_); refine goesL_ (some 18) rfl rfl Try.func53 (by kernel_rfl) rfl #[.slice Ao134 y140.length co134, .slice Ao135 y143.length co135] rfl ar_ ?_; (with_reducible refine (pdu_lay.calls _ _ y140 _ _ y143 t146 _ ?side1 ?side2 ?side3 ?side4 A4.out).mono ?_); (case side1 => repeat (first | exact (Kd.R_reads' HO142.out).2.2 | (with_reducible refine Kd.C_alloc ?_ _) | (with_reducible refine Kd.C_drewN ?_ _) | (with_reducible refine Kd.C_drew ?_))); (case side2 => exact (Kd.R_reads' HO142.out).2.1); (case side3 => repeat (first | exact (Kd.R_reads' HO145.out).2.2 | (with_reducible refine Kd.C_alloc ?_ _) | (with_reducible refine Kd.C_drewN ?_ _) | (with_reducible refine Kd.C_drew ?_))); (case side4 => exact (Kd.R_reads' HO145.out).2.1); rintro e w136 ⟨v147, rfl, ho0, hb⟩; refine ⟨_, rfl, ?_⟩; have n0_ := Aside0.mk (Kd.R_elder' (kr_ HO142) (Kd.R_base ho0) hb); have n1_ := Aside0.mk (Kd.R_below (kr_ HO145) hb); have n2_ := Aside0.mk (Kd.R_lower (Kd.R_new' ho0 (Kd.R_lt (kr_ HO142))) (below_size (bl1_ HB GE138))); have n3_ := Aside0.mk (blk_below (g := gb138) (o := .cells #[.int .i64 a0_0, .int .i64 a0_1, .int .i64 a0_2, .slice A0_3 l0_3.length c0_3, .int .i64 a0_4, .int .i64 a0_5, .int .i64 a0_6] 24 (0, 0)) (bk_ BK138) hb); have n4_ := Aside0.mk (below_step (bl1_ HB GE138) hb); clear HO142; clear HO145; clear BK138; clear HB; have HO142 := n0_; have HO145 := n1_; have HO148 := n2_; have BK138 := n3_; have HB := n4_; clear n0_ n1_ n2_ n3_ n4_; (try clear hb); (try clear hb2); (try clear hk); (try clear hi); (try clear ho0); have hcz137_0 : w136.cell? ⟨gb138, 0, none⟩ = some (.int .i64 a0_0) := (blk_cell BK138.out 0).trans rfl; have hcz137_1 : w136.cell? ⟨gb138, 1, none⟩ = some (.int .i64 a0_1) := (blk_cell BK138.out 1).trans rfl; have hcz137_2 : w136.cell? ⟨gb138, 2, none⟩ = some (.int .i64 a0_2) := (blk_cell BK138.out 2).trans rfl; have hcz137_3 : w136.cell? ⟨gb138, 3, none⟩ = some (.slice A0_3 l0_3.length c0_3) := (blk_cell BK138.out 3).trans rfl; have hcz137_4 : w136.cell? ⟨gb138, 4, none⟩ = some (.int .i64 a0_4) := (blk_cell BK138.out 4).trans rfl; have hcz137_5 : w136.cell? ⟨gb138, 5, none⟩ = some (.int .i64 a0_5) := (blk_cell BK138.out 5).trans rfl; have hcz137_6 : w136.cell? ⟨gb138, 6, none⟩ = some (.int .i64 a0_6) := (blk_cell BK138.out 6).trans rfl; have hfz137_0 := blk_frozen BK138.out 0; have hfz137_1 := blk_frozen BK138.out 1; have hfz137_2 := blk_frozen BK138.out 2; have hfz137_3 := blk_frozen BK138.out 3; have hfz137_4 := blk_frozen BK138.out 4; have hfz137_5 := blk_frozen BK138.out 5; have hfz137_6 := blk_frozen BK138.out 6))
                have n0_ := Aside0.mk (Kd.R_drew HO142.out)
                have n1_ := Aside0.mk (Kd.R_drew HO145.out)
                have n2_ := Aside0.mk (Kd.R_drew HO148.out)
                have n3_ := Aside0.mk (blk_drew BK138.out)
                have n4_ := Aside0.mk (below_drew1 HB.out)
                clear HO142
                clear HO145
                clear HO148
                clear BK138
                clear HB
                have HO142 := n0_
                have HO145 := n1_
                have HO148 := n2_
                have BK138 := n3_
                have HB := n4_
                clear n0_ n1_ n2_ n3_ n4_
                refine start_ (n := 10) (S := fun w' => w'.cell? ⟨gb138, 0, none⟩ = some (.int .i64 a0_0) ∧ w'.cell? ⟨gb138, 1, none⟩ = some (.int .i64 a0_1) ∧ w'.cell? ⟨gb138, 2, none⟩ = some (.int .i64 a0_2) ∧ w'.cell? ⟨gb138, 3, none⟩ = some (.slice A0_3 l0_3.length c0_3) ∧ w'.cell? ⟨gb138, 4, none⟩ = some (.int .i64 a0_4) ∧ w'.cell? ⟨gb138, 5, none⟩ = some (.int .i64 a0_5) ∧ w'.cell? ⟨gb138, 6, none⟩ = some (.int .i64 a0_6)) (ds := []) #[false, false, false, false, false, false, false, false, false, false] (by kernel_rfl) rfl rfl ⟨(blk_cell BK138.out 0).trans rfl, (blk_cell BK138.out 1).trans rfl, (blk_cell BK138.out 2).trans rfl, (blk_cell BK138.out 3).trans rfl, (blk_cell BK138.out 4).trans rfl, (blk_cell BK138.out 5).trans rfl, (blk_cell BK138.out 6).trans rfl⟩ (fun hHeld => ?_); refine with_tabW pdu_Bytes.tab19 pdu_Bytes.bits19 (fun HT_ HW_ => ?_)
                generalize w136.drew = w138 at HO142 HO145 HO148 BK138 HB hHeld ⊢
                refine pure_ (i := 0) (N := some 84) (v := ?_) (a' := ?_) #[true, false, false, false, false, false, false, false, false, false] rfl rfl (any_of HT_.out (by kernel_rfl)) (fun _ _ _ h => h) (Or.inl ⟨by rfl, ?_⟩) ?_ ?_
                rotate_left
                · intro w'
                  go_simp
                  with_reducible rfl
                rotate_left
                · simp only [Act.put, List.setIfInBounds_toArray, List.set_cons_zero, List.set_cons_succ, i64_w, i32_w]
                  rfl
                refine pure_ (i := 1) (N := some 85) (v := ?_) (a' := ?_) #[true, true, false, false, false, false, false, false, false, false] rfl rfl (any_of HT_.out (by kernel_rfl)) (fun _ _ _ h => h) (Or.inl ⟨by rfl, ?_⟩) ?_ ?_
                rotate_left
                · intro w'
                  go_simp
                  with_reducible rfl
                rotate_left
                · simp only [Act.put, List.setIfInBounds_toArray, List.set_cons_zero, List.set_cons_succ, i64_w, i32_w]
                  rfl
                refine pure_ (i := 5) (N := some 89) (v := ?_) (a' := ?_) #[true, true, false, false, false, true, false, false, false, false] rfl rfl (any_of HT_.out (by kernel_rfl)) (fun _ _ _ h => h) (Or.inl ⟨by rfl, ?_⟩) ?_ ?_
                rotate_left
                · intro w'
                  go_simp
                  with_reducible rfl
                rotate_left
                · simp only [Act.put, List.setIfInBounds_toArray, List.set_cons_zero, List.set_cons_succ, i64_w, i32_w]
                  rfl
                refine take_ (i := 2) (N := some 86) (v := ?_) (a' := ?_) #[true, true, true, false, false, true, false, false, false, false] rfl rfl (take_ofW HT_.out HW_.out (by kernel_rfl)) (fun _ _ _ h => h) (Or.inl ⟨by rfl, ?_⟩) hHeld ?_ ?_
                rotate_left
                · rintro w' ⟨s0, s1, s2, s3, s4, s5, s6⟩
                  go_simp
                  with_reducible rfl
                rotate_left
                · simp only [Act.put, List.setIfInBounds_toArray, List.set_cons_zero, List.set_cons_succ, i64_w, i32_w]
                  rfl
                refine take_ (i := 6) (N := some 90) (v := ?_) (a' := ?_) #[true, true, true, false, false, true, true, false, false, false] rfl rfl (take_ofW HT_.out HW_.out (by kernel_rfl)) (fun _ _ _ h => h) (Or.inl ⟨by rfl, ?_⟩) hHeld ?_ ?_
                rotate_left
                · rintro w' ⟨s0, s1, s2, s3, s4, s5, s6⟩
                  go_simp
                  with_reducible rfl
                rotate_left
                · simp only [Act.put, List.setIfInBounds_toArray, List.set_cons_zero, List.set_cons_succ, i64_w, i32_w]
                  rfl
                refine one_ (i := 3) (N := some 87) #[true, true, true, true, false, true, true, false, false, false] rfl rfl (one_of HT_.out (by kernel_rfl)) (by decide) (fun K hK => ?_)
                refine Kd.R_lit_step (Kd.int .i64) _ 3 ?hg (N := 87) ?hd (xs := ([a0_2] : List Int)) (inner := [.int .i64 a0_2]) (ok := fun _ => True) (okp := fun _ => True) ?hr ?hp (fun _ hk => hk) trivial (Below.refl _ _) (Nat.le_refl _) (by simp) ?_; (case hd => rfl); (case hg => rfl); (case hr => first | (go_simp; done) | (go_simp; rfl)); (case hp => exact (Reps.one (show Kd.M (Kd.int .i64) _ _ _ a0_2 [.int .i64 a0_2] from rfl) (Reps.none _ _)))
                intro v194 w139 ho140 hb hg_ hnew_
                clear hg_ hnew_
                (first | rw [← Ny193.out] at ho140 | (simp only [Int.reduceToNat] at ho140; rw [← Ny193.out] at ho140))
                have n0_ := Aside0.mk (Kd.R_below (kr_ HO142) hb)
                have n1_ := Aside0.mk (Kd.R_elder' (kr_ HO145) (Kd.R_base ho140) hb)
                have n2_ := Aside0.mk (Kd.R_below (kr_ HO148) hb)
                have n3_ := Aside0.mk (Kd.R_lower (Kd.R_new' ho140 (Kd.R_lt (kr_ HO145))) (below_size (bl1_ HB GE138)))
                have n4_ := Aside0.mk (blk_below (g := gb138) (o := .cells #[.int .i64 a0_0, .int .i64 a0_1, .int .i64 a0_2, .slice A0_3 l0_3.length c0_3, .int .i64 a0_4, .int .i64 a0_5, .int .i64 a0_6] 24 (0, 0)) (bk_ BK138) hb)
                have n5_ := Aside0.mk (below_step (bl1_ HB GE138) hb)
                clear HO142
                clear HO145
                clear HO148
                clear BK138
                clear HB
                have HO142 := n0_
                have HO145 := n1_
                have HO148 := n2_
                have HO195 := n3_
                have BK138 := n4_
                have HB := n5_
                clear n0_ n1_ n2_ n3_ n4_ n5_
                clear hb ho140
                obtain ⟨Ao141, co141, eo141⟩ := Kd.R_slice HO148.out
                (first | subst eo141 | (injection eo141 with f1_ f2_ f3_; have f4_ := f1_.symm; have f5_ := f3_.symm; clear f1_ f2_ f3_; subst f4_; subst f5_))
                obtain ⟨Ao142, co142, eo142⟩ := Kd.R_slice HO195.out
                (first | subst eo142 | (injection eo142 with f1_ f2_ f3_; have f4_ := f1_.symm; have f5_ := f3_.symm; clear f1_ f2_ f3_; subst f4_; subst f5_))
                refine hK.out _ _ ⟨(blk_cell BK138.out 0).trans rfl, (blk_cell BK138.out 1).trans rfl, (blk_cell BK138.out 2).trans rfl, (blk_cell BK138.out 3).trans rfl, (blk_cell BK138.out 4).trans rfl, (blk_cell BK138.out 5).trans rfl, (blk_cell BK138.out 6).trans rfl⟩ (fun hHeld => ?_)
                clear hK K
                refine norm_ (a' := ?_) ?_ ?_
                rotate_left
                · show Act.put _ (some 87) _ = _
                  simp only [Act.put, List.setIfInBounds_toArray, List.set_cons_zero, List.set_cons_succ, i64_w, i32_w]
                  rfl
                refine one_ (i := 4) (N := some 88) #[true, true, true, true, true, true, true, false, false, false] rfl rfl (one_of HT_.out (by kernel_rfl)) (by decide) (fun K hK => ?_)
                refine goes_ Try.func53 (by kernel_rfl) rfl #[.slice Ao141 t146.length co141, .slice Ao142 y193.length co142] (by rfl) rfl rfl ar_ ?_
                with_reducible refine (pdu_lay.calls _ _ t146 _ _ y193 t196 _ ?side1 ?side2 ?side3 ?side4 A122.out).mono ?_
                (case side1 => repeat (first | exact (Kd.R_reads' HO148.out).2.2 | (with_reducible refine Kd.C_alloc ?_ _) | (with_reducible refine Kd.C_drewN ?_ _) | (with_reducible refine Kd.C_drew ?_)))
                (case side2 => exact (Kd.R_reads' HO148.out).2.1)
                (case side3 => repeat (first | exact (Kd.R_reads' HO195.out).2.2 | (with_reducible refine Kd.C_alloc ?_ _) | (with_reducible refine Kd.C_drewN ?_ _) | (with_reducible refine Kd.C_drew ?_)))
                (case side4 => exact (Kd.R_reads' HO195.out).2.1)
                rintro e w143 ⟨v197, rfl, ho0, hb⟩
                refine ⟨_, rfl, ?_⟩
                have n0_ := Aside0.mk (Kd.R_elder' (kr_ HO142) (Kd.R_base ho0) hb)
                have n1_ := Aside0.mk (Kd.R_below (kr_ HO145) hb)
                have n2_ := Aside0.mk (Kd.R_elder' (kr_ HO148) (Kd.R_base ho0) hb)
                have n3_ := Aside0.mk (Kd.R_below (kr_ HO195) hb)
                have n4_ := Aside0.mk (Kd.R_lower (Kd.R_new' (Kd.R_new' ho0 (Kd.R_lt (kr_ HO142))) (Kd.R_lt (kr_ HO148))) (below_size (bl1_ HB GE138)))
                have n5_ := Aside0.mk (blk_below (g := gb138) (o := .cells #[.int .i64 a0_0, .int .i64 a0_1, .int .i64 a0_2, .slice A0_3 l0_3.length c0_3, .int .i64 a0_4, .int .i64 a0_5, .int .i64 a0_6] 24 (0, 0)) (bk_ BK138) hb)
                have n6_ := Aside0.mk (below_step (bl1_ HB GE138) hb)
                clear HO142
                clear HO145
                clear HO148
                clear HO195
                clear BK138
                clear HB
                have HO142 := n0_
                have HO145 := n1_
                have HO148 := n2_
                have HO195 := n3_
                have HO198 := n4_
                have BK138 := n5_
                have HB := n6_
                clear n0_ n1_ n2_ n3_ n4_ n5_ n6_
                (try clear hb)
                (try clear hb2)
                (try clear hk)
                (try clear hi)
                (try clear ho0)
                refine hK.out _ _ ⟨(blk_cell BK138.out 0).trans rfl, (blk_cell BK138.out 1).trans rfl, (blk_cell BK138.out 2).trans rfl, (blk_cell BK138.out 3).trans rfl, (blk_cell BK138.out 4).trans rfl, (blk_cell BK138.out 5).trans rfl, (blk_cell BK138.out 6).trans rfl⟩ (fun hHeld => ?_)
                clear hK K
                refine norm_ (a' := ?_) ?_ ?_
                rotate_left
                · show Act.put _ (some 88) _ = _
                  simp only [Act.put, List.setIfInBounds_toArray, List.set_cons_zero, List.set_cons_succ, i64_w, i32_w]
                  rfl
                refine one_ (i := 7) (N := some 91) #[true, true, true, true, true, true, true, true, false, false] rfl rfl (one_of HT_.out (by kernel_rfl)) (by decide) (fun K hK => ?_)
                refine goes_ Try.func53 (by kernel_rfl) rfl #[.slice none 0 0, .slice A0_3 l0_3.length c0_3] (by rfl) rfl rfl ar_ ?_
                refine (pdu_lay.calls _ _ ([] : List Int) _ _ l0_3 t199 _ ?side1 ?side2 ?side3 ?side4 A123.out).mono ?_
                (case side1 => exact Kd.C_nil _ _)
                (case side2 => exact Nat.le_refl _)
                (case side3 => repeat (first | exact (Kd.C_below HR0_3.out HB.out) | (with_reducible refine Kd.C_alloc ?_ _) | (with_reducible refine Kd.C_drewN ?_ _) | (with_reducible refine Kd.C_drew ?_)))
                (case side4 => exact HC0_3.out)
                rintro e w144 ⟨v200, rfl, ho0, hb⟩
                refine ⟨_, rfl, ?_⟩
                have n0_ := Aside0.mk (Kd.R_elder' (kr_ HO142) (Kd.R_base ho0) hb)
                have n1_ := Aside0.mk (Kd.R_below (kr_ HO145) hb)
                have n2_ := Aside0.mk (Kd.R_elder' (kr_ HO148) (Kd.R_base ho0) hb)
                have n3_ := Aside0.mk (Kd.R_below (kr_ HO195) hb)
                have n4_ := Aside0.mk (Kd.R_elder' (kr_ HO198) (Kd.R_base ho0) hb)
                have n5_ := Aside0.mk (Kd.R_lower (Kd.R_new' (Kd.R_new' (Kd.R_new' ho0 (Kd.R_lt (kr_ HO142))) (Kd.R_lt (kr_ HO148))) (Kd.R_lt (kr_ HO198))) (below_size (bl1_ HB GE138)))
                have n6_ := Aside0.mk (blk_below (g := gb138) (o := .cells #[.int .i64 a0_0, .int .i64 a0_1, .int .i64 a0_2, .slice A0_3 l0_3.length c0_3, .int .i64 a0_4, .int .i64 a0_5, .int .i64 a0_6] 24 (0, 0)) (bk_ BK138) hb)
                have n7_ := Aside0.mk (below_step (bl1_ HB GE138) hb)
                clear HO142
                clear HO145
                clear HO148
                clear HO195
                clear HO198
                clear BK138
                clear HB
                have HO142 := n0_
                have HO145 := n1_
                have HO148 := n2_
                have HO195 := n3_
                have HO198 := n4_
                have HO201 := n5_
                have BK138 := n6_
                have HB := n7_
                clear n0_ n1_ n2_ n3_ n4_ n5_ n6_ n7_
                (try clear hb)
                (try clear hb2)
                (try clear hk)
                (try clear hi)
                (try clear ho0)
                obtain ⟨Ao145, co145, eo145⟩ := Kd.R_slice HO198.out
                (first | subst eo145 | (injection eo145 with f1_ f2_ f3_; have f4_ := f1_.symm; have f5_ := f3_.symm; clear f1_ f2_ f3_; subst f4_; subst f5_))
                obtain ⟨Ao146, co146, eo146⟩ := Kd.R_slice HO201.out
                (first | subst eo146 | (injection eo146 with f1_ f2_ f3_; have f4_ := f1_.symm; have f5_ := f3_.symm; clear f1_ f2_ f3_; subst f4_; subst f5_))
                refine hK.out _ _ ⟨(blk_cell BK138.out 0).trans rfl, (blk_cell BK138.out 1).trans rfl, (blk_cell BK138.out 2).trans rfl, (blk_cell BK138.out 3).trans rfl, (blk_cell BK138.out 4).trans rfl, (blk_cell BK138.out 5).trans rfl, (blk_cell BK138.out 6).trans rfl⟩ (fun hHeld => ?_)
                clear hK K
                refine norm_ (a' := ?_) ?_ ?_
                rotate_left
                · show Act.put _ (some 91) _ = _
                  simp only [Act.put, List.setIfInBounds_toArray, List.set_cons_zero, List.set_cons_succ, i64_w, i32_w]
                  rfl
                refine one_ (i := 8) (N := some 92) #[true, true, true, true, true, true, true, true, true, false] rfl rfl (one_of HT_.out (by kernel_rfl)) (by decide) (fun K hK => ?_)
                refine goes_ Try.func54 (by kernel_rfl) rfl #[.slice Ao145 t196.length co145, .slice Ao146 t199.length co146] (by rfl) rfl rfl ar_ ?_
                with_reducible refine (pdu_counted.calls (fun k_ => some k_ = (.slice Ao145 t196.length co145 : Value).ownBlock) (.slice Ao145 t196.length co145) t196 _ _ t199 t202 w _ ?side1 ?side2 ?side3 ?side4 A124.out).mono ?_
                (case side1 => repeat (first | (with_reducible first | exact HB.out | apply below_alloc | apply pw_below_drewN | apply below_drew1 | refine below_set ?_ GE138.out) | exact HB.out))
                (case side2 => exact Kd.R_tight rfl HO198.out)
                (case side3 => exact Kd.C_kept_own (HO201.out) (fun k_ hk_ hs_ => (hk_.2) hs_))
                (case side4 => exact (Kd.R_reads' HO201.out).2.1)
                rintro e w147 ⟨v203, rfl, ho0, hb, hkp⟩
                refine ⟨_, rfl, ?_⟩
                have n0_ := Aside0.mk (blk_kept (bk_ BK138) hkp (fun hs_ => (fun e_ => (Kd.R_ne HO198.out BK138.out (by decide)) e_) hs_))
                have n1_ := Aside0.mk (Kd.R_mono (ok' := fun k_ => some k_ ≠ (.slice Ao141 t146.length co141 : Value).ownBlock ∧ some k_ ≠ (.slice Ao146 t199.length co146 : Value).ownBlock ∧ some k_ ≠ (v203 : Value).ownBlock) (Kd.R_keptB (HO142.out) hkp (fun k_ hk_ hs_ => (hk_.1.2) hs_)) (fun k_ hk_ => ⟨hk_.1.1.1.2, hk_.1.2, fun e_ => Or.elim (ho0.1 k_ e_.symm) (fun hs_ => hk_.2.1 hs_) (fun hn_ => Nat.not_le.2 hk_.2.2 hn_)⟩))
                have n2_ := Aside0.mk (Kd.R_mono (ok' := fun k_ => some k_ ≠ (.slice Ao142 y193.length co142 : Value).ownBlock) (Kd.R_keptB ((Kd.R_apart' HO145.out (Kd.R_typed HO198.out) (by decide))) hkp (fun k_ hk_ hs_ => (hk_.2) hs_)) (fun k_ hk_ => hk_.1.1.2))
                have n3_ := Aside0.mk (Kd.R_mono (ok' := fun k_ => some k_ ≠ (.slice Ao134 y140.length co134 : Value).ownBlock ∧ some k_ ≠ (.slice Ao146 t199.length co146 : Value).ownBlock ∧ some k_ ≠ (v203 : Value).ownBlock) (Kd.R_keptB (HO148.out) hkp (fun k_ hk_ hs_ => (hk_.1.2) hs_)) (fun k_ hk_ => ⟨hk_.1.1.1.2, hk_.1.2, fun e_ => Or.elim (ho0.1 k_ e_.symm) (fun hs_ => hk_.2.1 hs_) (fun hn_ => Nat.not_le.2 hk_.2.2 hn_)⟩))
                have n4_ := Aside0.mk (Kd.R_mono (ok' := fun k_ => some k_ ≠ (.slice Ao135 y143.length co135 : Value).ownBlock) (Kd.R_keptB ((Kd.R_apart' HO195.out (Kd.R_typed HO198.out) (by decide))) hkp (fun k_ hk_ hs_ => (hk_.2) hs_)) (fun k_ hk_ => hk_.1.1.2))
                have n5_ := Aside0.mk (Kd.R_mono (ok' := fun k_ => some k_ ≠ (.slice Ao134 y140.length co134 : Value).ownBlock ∧ some k_ ≠ (.slice Ao141 t146.length co141 : Value).ownBlock ∧ some k_ ≠ (v203 : Value).ownBlock) (Kd.R_keptB (HO201.out) hkp (fun k_ hk_ hs_ => (hk_.2) hs_)) (fun k_ hk_ => ⟨hk_.1.1.1.2, hk_.1.1.2, fun e_ => Or.elim (ho0.1 k_ e_.symm) (fun hs_ => hk_.2.1 hs_) (fun hn_ => Nat.not_le.2 hk_.2.2 hn_)⟩))
                have n6_ := Aside0.mk (Kd.R_mono (ok' := fun k_ => some k_ ≠ (.slice Ao134 y140.length co134 : Value).ownBlock ∧ some k_ ≠ (.slice Ao141 t146.length co141 : Value).ownBlock ∧ some k_ ≠ (.slice Ao146 t199.length co146 : Value).ownBlock) ho0 (fun k_ hk_ => ⟨Or.elim hk_ (fun hs_ => fun e_ => (((HO142.out).1 k_ e_.symm).1.2) hs_) (fun hn_ => (Kd.fresh' (Kd.R_lt (kr_ HO142)) k_ hn_)), Or.elim hk_ (fun hs_ => fun e_ => (((HO148.out).1 k_ e_.symm).1.2) hs_) (fun hn_ => (Kd.fresh' (Kd.R_lt (kr_ HO148)) k_ hn_)), Or.elim hk_ (fun hs_ => fun e_ => (((HO201.out).1 k_ e_.symm).2) hs_) (fun hn_ => (Kd.fresh' (Kd.R_lt (kr_ HO201)) k_ hn_))⟩))
                have n7_ := Aside0.mk (hb)
                clear BK138
                clear HO142
                clear HO145
                clear HO148
                clear HO195
                clear HO201
                clear HB
                clear HO198
                have BK138 := n0_
                have HO142 := n1_
                have HO145 := n2_
                have HO148 := n3_
                have HO195 := n4_
                have HO201 := n5_
                have HO204 := n6_
                have HB := n7_
                clear n0_ n1_ n2_ n3_ n4_ n5_ n6_ n7_
                (try clear hb)
                (try clear hkp)
                (try clear ho0)
                refine hK.out _ _ ⟨(blk_cell BK138.out 0).trans rfl, (blk_cell BK138.out 1).trans rfl, (blk_cell BK138.out 2).trans rfl, (blk_cell BK138.out 3).trans rfl, (blk_cell BK138.out 4).trans rfl, (blk_cell BK138.out 5).trans rfl, (blk_cell BK138.out 6).trans rfl⟩ (fun hHeld => ?_)
                clear hK K
                refine norm_ (a' := ?_) ?_ ?_
                rotate_left
                · show Act.put _ (some 92) _ = _
                  simp only [Act.put, List.setIfInBounds_toArray, List.set_cons_zero, List.set_cons_succ, i64_w, i32_w]
                  rfl
                refine pure_ (i := 9) (N := some 5) (v := ?_) (a' := ?_) #[true, true, true, true, true, true, true, true, true, true] rfl rfl (any_of HT_.out (by kernel_rfl)) (fun _ _ _ h => h) (Or.inl ⟨by rfl, ?_⟩) ?_ ?_
                rotate_left
                · intro w'
                  go_simp
                  with_reducible rfl
                rotate_left
                · simp only [Act.put, List.setIfInBounds_toArray, List.set_cons_zero, List.set_cons_succ, i64_w, i32_w]
                  rfl
                refine done_ (done_of HT_.out (by kernel_rfl)) ?_
                try go_wp2
                go_ret2
                exact ⟨_, by first | rfl | (simp [errW_none, errW_some] <;> rfl) | (simp [*, errW_none, errW_some] <;> rfl), by (with_reducible repeat (first | apply Kd.R_alloc | apply Kd.R_drewN | apply Kd.R_drew)); exact Kd.R_mono HO204.out (fun _ hk => trivial), bl1_ HB GE138⟩
              · rw [if_neg c121] at H
                have c121b0 : (a0_0 == 16) = false := beq_eq_false_iff_ne.mpr c121
                have c121b1 : (a0_0 != 16) = true := bne_iff_ne.mpr c121
                obtain ⟨y205, hy205⟩ : ∃ y_ : List Int, y_ = (([a0_2] : List Int)) := ⟨_, rfl⟩
                replace H : ((pdu_lay.f t146 y205).bind fun t208 => (some (t208, 0))) = some (r1, r2) := by first | (rw [hy205]; with_reducible exact H) | (have H2_ := (Option.bind_some _ _).symm.trans H; rw [hy205]; with_reducible exact H2_) | (have H2_ := (Option.bind_some _ _).symm.trans H; with_reducible exact H2_) | with_reducible exact H | (rw [hy205]; exact H) | exact H
                have Ny205 := Aside0.mk hy205
                clear hy205
                replace H := Option.bind_eq_some_iff.mp H
                obtain ⟨t208, A1480, H⟩ := H
                replace H : (some (t208, 0)) = some (r1, r2) := H
                have A148 := Aside0.mk A1480
                clear A1480
                simp only [Option.some.injEq, Prod.mk.injEq] at H
                obtain ⟨rfl, rfl⟩ := H
                go_enter Try.func30, Try.ntmps30
                go_wp2_with (first | ((with_reducible refine gate_dst (N := 1) rfl ?_); refine box_event ?hg (N := 1) ?hd (cs := #[.int .i64 a0_0, .int .i64 a0_1, .int .i64 a0_2, .slice A0_3 l0_3.length c0_3, .int .i64 a0_4, .int .i64 a0_5, .int .i64 a0_6]) (t := 24) ?hr ?_; (case hd => rfl); (case hg => rfl); (case hr => first | (go_simp; done) | (go_simp; rfl)); intro gb138 hg w149 hbox hb; have n0_ := Aside0.mk (below_step (bl0_ HB) hb); have n1_ := Aside0.mk (hbox); have n2_ := Aside0.mk ((by rw [hg]; exact (below_size (bl0_ HB)) : w.heap.size ≤ gb138)); have n3_ := Aside0.mk ((by rw [hg]; exact (below_size (bl0_ HB)) : w.heap.size ≤ gb138)); clear HB; have HB := n0_; have BK138 := n1_; have GW138 := n2_; have GE138 := n3_; clear n0_ n1_ n2_ n3_; clear hb hbox hg; have hcz150_0 : w149.cell? ⟨gb138, 0, none⟩ = some (.int .i64 a0_0) := (blk_cell BK138.out 0).trans rfl; have hcz150_1 : w149.cell? ⟨gb138, 1, none⟩ = some (.int .i64 a0_1) := (blk_cell BK138.out 1).trans rfl; have hcz150_2 : w149.cell? ⟨gb138, 2, none⟩ = some (.int .i64 a0_2) := (blk_cell BK138.out 2).trans rfl; have hcz150_3 : w149.cell? ⟨gb138, 3, none⟩ = some (.slice A0_3 l0_3.length c0_3) := (blk_cell BK138.out 3).trans rfl; have hcz150_4 : w149.cell? ⟨gb138, 4, none⟩ = some (.int .i64 a0_4) := (blk_cell BK138.out 4).trans rfl; have hcz150_5 : w149.cell? ⟨gb138, 5, none⟩ = some (.int .i64 a0_5) := (blk_cell BK138.out 5).trans rfl; have hcz150_6 : w149.cell? ⟨gb138, 6, none⟩ = some (.int .i64 a0_6) := (blk_cell BK138.out 6).trans rfl; have hfz150_0 := blk_frozen BK138.out 0; have hfz150_1 := blk_frozen BK138.out 1; have hfz150_2 := blk_frozen BK138.out 2; have hfz150_3 := blk_frozen BK138.out 3; have hfz150_4 := blk_frozen BK138.out 4; have hfz150_5 := blk_frozen BK138.out 5; have hfz150_6 := blk_frozen BK138.out 6) | ((with_reducible refine gate_callee (f := 29) rfl ?_); refine goesL_ (some 7) rfl rfl Try.func29 (by kernel_rfl) rfl #[.agg #[.int .i64 a0_0, .int .i64 a0_1, .int .i64 a0_2, .slice A0_3 l0_3.length c0_3, .int .i64 a0_4, .int .i64 a0_5, .int .i64 a0_6]] rfl ar_ ?_; (with_reducible refine (pdu_Check.calls k a0_0 a0_1 a0_2 _ _ l0_3 a0_4 a0_5 a0_6 t139 _ ?side1 ?side2 A2.out).mono ?_); (case side1 => repeat (first | exact (Kd.C_below HR0_3.out HB.out) | (with_reducible refine Kd.C_alloc ?_ _) | (with_reducible refine Kd.C_drewN ?_ _) | (with_reducible refine Kd.C_drew ?_))); (case side2 => exact HC0_3.out); rintro e w151 ⟨rfl, hb⟩; refine ⟨_, rfl, ?_⟩; have n0_ := Aside0.mk (blk_below (g := gb138) (o := .cells #[.int .i64 a0_0, .int .i64 a0_1, .int .i64 a0_2, .slice A0_3 l0_3.length c0_3, .int .i64 a0_4, .int .i64 a0_5, .int .i64 a0_6] 24 (0, 0)) (bk_ BK138) hb); have n1_ := Aside0.mk (below_step (bl1_ HB GE138) hb); clear BK138; clear HB; have BK138 := n0_; have HB := n1_; clear n0_ n1_; (try clear hb); (try clear hb2); (try clear hk); (try clear hi); have hcz152_0 : w151.cell? ⟨gb138, 0, none⟩ = some (.int .i64 a0_0) := (blk_cell BK138.out 0).trans rfl; have hcz152_1 : w151.cell? ⟨gb138, 1, none⟩ = some (.int .i64 a0_1) := (blk_cell BK138.out 1).trans rfl; have hcz152_2 : w151.cell? ⟨gb138, 2, none⟩ = some (.int .i64 a0_2) := (blk_cell BK138.out 2).trans rfl; have hcz152_3 : w151.cell? ⟨gb138, 3, none⟩ = some (.slice A0_3 l0_3.length c0_3) := (blk_cell BK138.out 3).trans rfl; have hcz152_4 : w151.cell? ⟨gb138, 4, none⟩ = some (.int .i64 a0_4) := (blk_cell BK138.out 4).trans rfl; have hcz152_5 : w151.cell? ⟨gb138, 5, none⟩ = some (.int .i64 a0_5) := (blk_cell BK138.out 5).trans rfl; have hcz152_6 : w151.cell? ⟨gb138, 6, none⟩ = some (.int .i64 a0_6) := (blk_cell BK138.out 6).trans rfl; have hfz152_0 := blk_frozen BK138.out 0; have hfz152_1 := blk_frozen BK138.out 1; have hfz152_2 := blk_frozen BK138.out 2; have hfz152_3 := blk_frozen BK138.out 3; have hfz152_4 := blk_frozen BK138.out 4; have hfz152_5 := blk_frozen BK138.out 5; have hfz152_6 := blk_frozen BK138.out 6) | ((with_reducible refine gate_dst (N := 14) rfl ?_); refine Kd.R_lit (Kd.int .u8) _ 5 ?hg (N := 14) ?hd (xs := ([(a0_0) % 256] : List Int)) (inner := [.int .u8 ((a0_0) % 256)]) (ok := fun _ => True) (okp := fun _ => True) ?hr ?hp (fun _ hk => hk) trivial (Below.refl _ _) (Nat.le_refl _) (by simp) ?_; (case hd => rfl); (case hg => rfl); (case hr => first | (go_simp; done) | (go_simp; rfl)); (case hp => exact (Reps.one (show Kd.M (Kd.int .u8) _ _ _ ((a0_0) % 256) [.int .u8 ((a0_0) % 256)] from rfl) (Reps.none _ _))); intro v141 w153 ho154 hb hg_ hnew_; clear hg_ hnew_; (first | rw [← Ny140.out] at ho154 | (simp only [Int.reduceToNat] at ho154; rw [← Ny140.out] at ho154)); have n0_ := Aside0.mk (Kd.R_lower ho154 (below_size (bl1_ HB GE138))); have n1_ := Aside0.mk (blk_below (g := gb138) (o := .cells #[.int .i64 a0_0, .int .i64 a0_1, .int .i64 a0_2, .slice A0_3 l0_3.length c0_3, .int .i64 a0_4, .int .i64 a0_5, .int .i64 a0_6] 24 (0, 0)) (bk_ BK138) hb); have n2_ := Aside0.mk (below_step (bl1_ HB GE138) hb); clear BK138; clear HB; have HO142 := n0_; have BK138 := n1_; have HB := n2_; clear n0_ n1_ n2_; clear hb ho154; have hcz155_0 : w153.cell? ⟨gb138, 0, none⟩ = some (.int .i64 a0_0) := (blk_cell BK138.out 0).trans rfl; have hcz155_1 : w153.cell? ⟨gb138, 1, none⟩ = some (.int .i64 a0_1) := (blk_cell BK138.out 1).trans rfl; have hcz155_2 : w153.cell? ⟨gb138, 2, none⟩ = some (.int .i64 a0_2) := (blk_cell BK138.out 2).trans rfl; have hcz155_3 : w153.cell? ⟨gb138, 3, none⟩ = some (.slice A0_3 l0_3.length c0_3) := (blk_cell BK138.out 3).trans rfl; have hcz155_4 : w153.cell? ⟨gb138, 4, none⟩ = some (.int .i64 a0_4) := (blk_cell BK138.out 4).trans rfl; have hcz155_5 : w153.cell? ⟨gb138, 5, none⟩ = some (.int .i64 a0_5) := (blk_cell BK138.out 5).trans rfl; have hcz155_6 : w153.cell? ⟨gb138, 6, none⟩ = some (.int .i64 a0_6) := (blk_cell BK138.out 6).trans rfl; have hfz155_0 := blk_frozen BK138.out 0; have hfz155_1 := blk_frozen BK138.out 1; have hfz155_2 := blk_frozen BK138.out 2; have hfz155_3 := blk_frozen BK138.out 3; have hfz155_4 := blk_frozen BK138.out 4; have hfz155_5 := blk_frozen BK138.out 5; have hfz155_6 := blk_frozen BK138.out 6) | ((with_reducible refine gate_dst (N := 17) rfl ?_); refine Kd.R_lit (Kd.int .i64) _ 3 ?hg (N := 17) ?hd (xs := ([a0_1] : List Int)) (inner := [.int .i64 a0_1]) (ok := fun _ => True) (okp := fun _ => True) ?hr ?hp (fun _ hk => hk) trivial (Below.refl _ _) (Nat.le_refl _) (by simp) ?_; (case hd => rfl); (case hg => rfl); (case hr => first | (go_simp; done) | (go_simp; rfl)); (case hp => exact (Reps.one (show Kd.M (Kd.int .i64) _ _ _ a0_1 [.int .i64 a0_1] from rfl) (Reps.none _ _))); intro v144 w156 ho157 hb hg_ hnew_; clear hg_ hnew_; (first | rw [← Ny143.out] at ho157 | (simp only [Int.reduceToNat] at ho157; rw [← Ny143.out] at ho157)); have n0_ := Aside0.mk (Kd.R_below (kr_ HO142) hb); have n1_ := Aside0.mk (Kd.R_lower ho157 (below_size (bl1_ HB GE138))); have n2_ := Aside0.mk (blk_below (g := gb138) (o := .cells #[.int .i64 a0_0, .int .i64 a0_1, .int .i64 a0_2, .slice A0_3 l0_3.length c0_3, .int .i64 a0_4, .int .i64 a0_5, .int .i64 a0_6] 24 (0, 0)) (bk_ BK138) hb); have n3_ := Aside0.mk (below_step (bl1_ HB GE138) hb); clear HO142; clear BK138; clear HB; have HO142 := n0_; have HO145 := n1_; have BK138 := n2_; have HB := n3_; clear n0_ n1_ n2_ n3_; clear hb ho157; obtain ⟨Ao158, co158, eo158⟩ := Kd.R_slice HO142.out; subst eo158; obtain ⟨Ao159, co159, eo159⟩ := Kd.R_slice HO145.out; subst eo159) | ((with_reducible refine gate_callee (f := 53) rfl ?_); refine goesL_ (some 18) rfl rfl Try.func53 (by kernel_rfl) rfl #[.slice Ao158 y140.length co158, .slice Ao159 y143.length co159] rfl ar_ ?_; (with_reducible refine (pdu_lay.calls _ _ y140 _ _ y143 t146 _ ?side1 ?side2 ?side3 ?side4 A4.out).mono ?_); (case side1 => repeat (first | exact (Kd.R_reads' HO142.out).2.2 | (with_reducible refine Kd.C_alloc ?_ _) | (with_reducible refine Kd.C_drewN ?_ _) | (with_reducible refine Kd.C_drew ?_))); (case side2 => exact (Kd.R_reads' HO142.out).2.1); (case side3 => repeat (first | exact (Kd.R_reads' HO145.out).2.2 | (with_reducible refine Kd.C_alloc ?_ _) | (with_reducible refine Kd.C_drewN ?_ _) | (with_reducible refine Kd.C_drew ?_))); (case side4 => exact (Kd.R_reads' HO145.out).2.1); rintro e w160 ⟨v147, rfl, ho0, hb⟩; refine ⟨_, rfl, ?_⟩; have n0_ := Aside0.mk (Kd.R_elder' (kr_ HO142) (Kd.R_base ho0) hb); have n1_ := Aside0.mk (Kd.R_below (kr_ HO145) hb); have n2_ := Aside0.mk (Kd.R_lower (Kd.R_new' ho0 (Kd.R_lt (kr_ HO142))) (below_size (bl1_ HB GE138))); have n3_ := Aside0.mk (blk_below (g := gb138) (o := .cells #[.int .i64 a0_0, .int .i64 a0_1, .int .i64 a0_2, .slice A0_3 l0_3.length c0_3, .int .i64 a0_4, .int .i64 a0_5, .int .i64 a0_6] 24 (0, 0)) (bk_ BK138) hb); have n4_ := Aside0.mk (below_step (bl1_ HB GE138) hb); clear HO142; clear HO145; clear BK138; clear HB; have HO142 := n0_; have HO145 := n1_; have HO148 := n2_; have BK138 := n3_; have HB := n4_; clear n0_ n1_ n2_ n3_ n4_; (try clear hb); (try clear hb2); (try clear hk); (try clear hi); (try clear ho0); have hcz161_0 : w160.cell? ⟨gb138, 0, none⟩ = some (.int .i64 a0_0) := (blk_cell BK138.out 0).trans rfl; have hcz161_1 : w160.cell? ⟨gb138, 1, none⟩ = some (.int .i64 a0_1) := (blk_cell BK138.out 1).trans rfl; have hcz161_2 : w160.cell? ⟨gb138, 2, none⟩ = some (.int .i64 a0_2) := (blk_cell BK138.out 2).trans rfl; have hcz161_3 : w160.cell? ⟨gb138, 3, none⟩ = some (.slice A0_3 l0_3.length c0_3) := (blk_cell BK138.out 3).trans rfl; have hcz161_4 : w160.cell? ⟨gb138, 4, none⟩ = some (.int .i64 a0_4) := (blk_cell BK138.out 4).trans rfl; have hcz161_5 : w160.cell? ⟨gb138, 5, none⟩ = some (.int .i64 a0_5) := (blk_cell BK138.out 5).trans rfl; have hcz161_6 : w160.cell? ⟨gb138, 6, none⟩ = some (.int .i64 a0_6) := (blk_cell BK138.out 6).trans rfl; have hfz161_0 := blk_frozen BK138.out 0; have hfz161_1 := blk_frozen BK138.out 1; have hfz161_2 := blk_frozen BK138.out 2; have hfz161_3 := blk_frozen BK138.out 3; have hfz161_4 := blk_frozen BK138.out 4; have hfz161_5 := blk_frozen BK138.out 5; have hfz161_6 := blk_frozen BK138.out 6) | ((with_reducible refine gate_dst (N := 24) rfl ?_); refine Kd.R_lit (Kd.int .i64) _ 3 ?hg (N := 24) ?hd (xs := ([a0_2] : List Int)) (inner := [.int .i64 a0_2]) (ok := fun _ => True) (okp := fun _ => True) ?hr ?hp (fun _ hk => hk) trivial (Below.refl _ _) (Nat.le_refl _) (by simp) ?_; (case hd => rfl); (case hg => rfl); (case hr => first | (go_simp; done) | (go_simp; rfl)); (case hp => exact (Reps.one (show Kd.M (Kd.int .i64) _ _ _ a0_2 [.int .i64 a0_2] from rfl) (Reps.none _ _))); intro v206 w162 ho163 hb hg_ hnew_; clear hg_ hnew_; (first | rw [← Ny205.out] at ho163 | (simp only [Int.reduceToNat] at ho163; rw [← Ny205.out] at ho163)); have n0_ := Aside0.mk (Kd.R_below (kr_ HO142) hb); have n1_ := Aside0.mk (Kd.R_elder' (kr_ HO145) (Kd.R_base ho163) hb); have n2_ := Aside0.mk (Kd.R_below (kr_ HO148) hb); have n3_ := Aside0.mk (Kd.R_lower (Kd.R_new' ho163 (Kd.R_lt (kr_ HO145))) (below_size (bl1_ HB GE138))); have n4_ := Aside0.mk (blk_below (g := gb138) (o := .cells #[.int .i64 a0_0, .int .i64 a0_1, .int .i64 a0_2, .slice A0_3 l0_3.length c0_3, .int .i64 a0_4, .int .i64 a0_5, .int .i64 a0_6] 24 (0, 0)) (bk_ BK138) hb); have n5_ := Aside0.mk (below_step (bl1_ HB GE138) hb); clear HO142; clear HO145; clear HO148; clear BK138; clear HB; have HO142 := n0_; have HO145 := n1_; have HO148 := n2_; have HO207 := n3_; have BK138 := n4_; have HB := n5_; clear n0_ n1_ n2_ n3_ n4_ n5_; clear hb ho163; obtain ⟨Ao164, co164, eo164⟩ := Kd.R_slice HO148.out; subst eo164; obtain ⟨Ao165, co165, eo165⟩ := Kd.R_slice HO207.out; subst eo165) | ((with_reducible refine gate_callee (f := 53) rfl ?_); refine goesL_ (some 25) rfl rfl Try.func53 (by kernel_rfl) rfl #[.slice Ao164 t146.length co164, .slice Ao165 y205.length co165] rfl ar_ ?_; (with_reducible refine (pdu_lay.calls _ _ t146 _ _ y205 t208 _ ?side1 ?side2 ?side3 ?side4 A148.out).mono ?_); (case side1 => repeat (first | exact (Kd.R_reads' HO148.out).2.2 | (with_reducible refine Kd.C_alloc ?_ _) | (with_reducible refine Kd.C_drewN ?_ _) | (with_reducible refine Kd.C_drew ?_))); (case side2 => exact (Kd.R_reads' HO148.out).2.1); (case side3 => repeat (first | exact (Kd.R_reads' HO207.out).2.2 | (with_reducible refine Kd.C_alloc ?_ _) | (with_reducible refine Kd.C_drewN ?_ _) | (with_reducible refine Kd.C_drew ?_))); (case side4 => exact (Kd.R_reads' HO207.out).2.1); rintro e w166 ⟨v209, rfl, ho0, hb⟩; refine ⟨_, rfl, ?_⟩; have n0_ := Aside0.mk (Kd.R_elder' (kr_ HO142) (Kd.R_base ho0) hb); have n1_ := Aside0.mk (Kd.R_below (kr_ HO145) hb); have n2_ := Aside0.mk (Kd.R_elder' (kr_ HO148) (Kd.R_base ho0) hb); have n3_ := Aside0.mk (Kd.R_below (kr_ HO207) hb); have n4_ := Aside0.mk (Kd.R_lower (Kd.R_new' (Kd.R_new' ho0 (Kd.R_lt (kr_ HO142))) (Kd.R_lt (kr_ HO148))) (below_size (bl1_ HB GE138))); have n5_ := Aside0.mk (blk_below (g := gb138) (o := .cells #[.int .i64 a0_0, .int .i64 a0_1, .int .i64 a0_2, .slice A0_3 l0_3.length c0_3, .int .i64 a0_4, .int .i64 a0_5, .int .i64 a0_6] 24 (0, 0)) (bk_ BK138) hb); have n6_ := Aside0.mk (below_step (bl1_ HB GE138) hb); clear HO142; clear HO145; clear HO148; clear HO207; clear BK138; clear HB; have HO142 := n0_; have HO145 := n1_; have HO148 := n2_; have HO207 := n3_; have HO210 := n4_; have BK138 := n5_; have HB := n6_; clear n0_ n1_ n2_ n3_ n4_ n5_ n6_; (try clear hb); (try clear hb2); (try clear hk); (try clear hi); (try clear ho0)))
                go_ret2
                exact ⟨_, by first | rfl | (simp [errW_none, errW_some] <;> rfl) | (simp [*, errW_none, errW_some] <;> rfl), by (with_reducible repeat (first | apply Kd.R_alloc | apply Kd.R_drewN | apply Kd.R_drew)); exact Kd.R_mono HO210.out (fun _ hk => trivial), bl1_ HB GE138⟩
  · rw [if_neg c3] at H
    have c3b0 : (t139 == 0) = false := beq_eq_false_iff_ne.mpr c3
    have c3b1 : (t139 != 0) = true := bne_iff_ne.mpr c3
    simp only [Option.some.injEq, Prod.mk.injEq] at H
    obtain ⟨rfl, rfl⟩ := H
    go_enter Try.func30, Try.ntmps30
    go_wp2_with (first | ((with_reducible refine gate_dst (N := 1) rfl ?_); refine box_event ?hg (N := 1) ?hd (cs := #[.int .i64 a0_0, .int .i64 a0_1, .int .i64 a0_2, .slice A0_3 l0_3.length c0_3, .int .i64 a0_4, .int .i64 a0_5, .int .i64 a0_6]) (t := 24) ?hr ?_; (case hd => rfl); (case hg => rfl); (case hr => first | (go_simp; done) | (go_simp; rfl)); intro gb138 hg w167 hbox hb; have n0_ := Aside0.mk (below_step (bl0_ HB) hb); have n1_ := Aside0.mk (hbox); have n2_ := Aside0.mk ((by rw [hg]; exact (below_size (bl0_ HB)) : w.heap.size ≤ gb138)); have n3_ := Aside0.mk ((by rw [hg]; exact (below_size (bl0_ HB)) : w.heap.size ≤ gb138)); clear HB; have HB := n0_; have BK138 := n1_; have GW138 := n2_; have GE138 := n3_; clear n0_ n1_ n2_ n3_; clear hb hbox hg; have hcz168_0 : w167.cell? ⟨gb138, 0, none⟩ = some (.int .i64 a0_0) := (blk_cell BK138.out 0).trans rfl; have hcz168_1 : w167.cell? ⟨gb138, 1, none⟩ = some (.int .i64 a0_1) := (blk_cell BK138.out 1).trans rfl; have hcz168_2 : w167.cell? ⟨gb138, 2, none⟩ = some (.int .i64 a0_2) := (blk_cell BK138.out 2).trans rfl; have hcz168_3 : w167.cell? ⟨gb138, 3, none⟩ = some (.slice A0_3 l0_3.length c0_3) := (blk_cell BK138.out 3).trans rfl; have hcz168_4 : w167.cell? ⟨gb138, 4, none⟩ = some (.int .i64 a0_4) := (blk_cell BK138.out 4).trans rfl; have hcz168_5 : w167.cell? ⟨gb138, 5, none⟩ = some (.int .i64 a0_5) := (blk_cell BK138.out 5).trans rfl; have hcz168_6 : w167.cell? ⟨gb138, 6, none⟩ = some (.int .i64 a0_6) := (blk_cell BK138.out 6).trans rfl; have hfz168_0 := blk_frozen BK138.out 0; have hfz168_1 := blk_frozen BK138.out 1; have hfz168_2 := blk_frozen BK138.out 2; have hfz168_3 := blk_frozen BK138.out 3; have hfz168_4 := blk_frozen BK138.out 4; have hfz168_5 := blk_frozen BK138.out 5; have hfz168_6 := blk_frozen BK138.out 6) | ((with_reducible refine gate_callee (f := 29) rfl ?_); refine goesL_ (some 7) rfl rfl Try.func29 (by kernel_rfl) rfl #[.agg #[.int .i64 a0_0, .int .i64 a0_1, .int .i64 a0_2, .slice A0_3 l0_3.length c0_3, .int .i64 a0_4, .int .i64 a0_5, .int .i64 a0_6]] rfl ar_ ?_; (with_reducible refine (pdu_Check.calls k a0_0 a0_1 a0_2 _ _ l0_3 a0_4 a0_5 a0_6 t139 _ ?side1 ?side2 A2.out).mono ?_); (case side1 => repeat (first | exact (Kd.C_below HR0_3.out HB.out) | (with_reducible refine Kd.C_alloc ?_ _) | (with_reducible refine Kd.C_drewN ?_ _) | (with_reducible refine Kd.C_drew ?_))); (case side2 => exact HC0_3.out); rintro e w169 ⟨rfl, hb⟩; refine ⟨_, rfl, ?_⟩; have n0_ := Aside0.mk (blk_below (g := gb138) (o := .cells #[.int .i64 a0_0, .int .i64 a0_1, .int .i64 a0_2, .slice A0_3 l0_3.length c0_3, .int .i64 a0_4, .int .i64 a0_5, .int .i64 a0_6] 24 (0, 0)) (bk_ BK138) hb); have n1_ := Aside0.mk (below_step (bl1_ HB GE138) hb); clear BK138; clear HB; have BK138 := n0_; have HB := n1_; clear n0_ n1_; (try clear hb); (try clear hb2); (try clear hk); (try clear hi)))
    go_ret2
    exact ⟨_, by first | rfl | (simp [errW_none, errW_some] <;> rfl) | (simp [*, errW_none, errW_some] <;> rfl), by first | exact Kd.R_nil _ _ _ _ _ | exact Kd.N_nil _ _ _ _ _ | exact Kd.V_nil _ _ _ _ _ | exact Kd.Q_nil _ _ _ _ _ | exact Kd.S_nil _ _ _ _ _, bl1_ HB GE138⟩
end Go.Proofs.Ytocicifgglkaeaa.PQ
end

section
namespace Go.Proofs.Ytocicifgglkaeaa.PQ
open Go.RowKit Go.Proofs.YtocicifgglkaeaaW.PrintWords Go.Proofs.YtocicifgglkaeaaW.PrintLast Go.Proofs.YtocicifgglkaeaaW.PrintMore
attribute [local go_sem] max2_int min2_int max_two min_two max_three min_three max_four min_four   
set_option linter.unusedVariables false
set_option linter.unusedSimpArgs false
open Go.Proofs.Ytocicifgglkaeaa.Ext Go.Proofs.Ytocicifgglkaeaa.PP Go.Proofs.Ytocicifgglkaeaa.ExtF
def pdu_answer.j0 : Nat → Int → Bool → Int → Int → Int → List Int → Int → Int → Int → List Int → Int → Option (Bool)
  | 0, _, _, _, _, _, _, _, _, _, _, _ => none
  | k + 1, x18, x19, x212000, x212001, x212002, x212003, x212004, x212005, x212006, x213000, x213001 => if x19 = true then ((pdu_some.f k x213000 x212002 x212002 1).bind fun t214 => (some t214)) else (if x18 = 3 then ((pdu_some.f k x213000 x212002 x212002 65535).bind fun t215 => (some t215)) else (if x18 = 4 then ((pdu_some.f k x213000 x212002 x212002 65535).bind fun t216 => (some t216)) else (if x18 = 23 then ((pdu_some.f k x213000 x212002 x212002 65535).bind fun t217 => (some t217)) else (some ((x213000.length : Int) == 0)))))
def pdu_answer.f (k : Nat) (a0_0 : Int) (a0_1 : Int) (a0_2 : Int) (l0_3 : List Int) (a0_4 : Int) (a0_5 : Int) (a0_6 : Int) (l1_0 : List Int) (a1_1 : Int) : Option (Bool) := if a1_1 = 0 then (if a0_0 = 1 then (pdu_answer.j0 k a0_0 (a0_0 == 1) a0_0 a0_1 a0_2 l0_3 a0_4 a0_5 a0_6 l1_0 a1_1) else (pdu_answer.j0 k a0_0 (a0_0 == 2) a0_0 a0_1 a0_2 l0_3 a0_4 a0_5 a0_6 l1_0 a1_1)) else ((pdu_within.f a1_1 1 255).bind fun t213 => (if t213 = true then (some ((l1_0.length : Int) == 0)) else (some false)))
theorem pdu_answer.mono_l : ∀ k, (∀ y0 y1 y2 y3 y4 y5 y6 y7 y8 y9 y10, LeO (pdu_answer.j0 k y0 y1 y2 y3 y4 y5 y6 y7 y8 y9 y10) (pdu_answer.j0 (k + 1) y0 y1 y2 y3 y4 y5 y6 y7 y8 y9 y10))
  | 0 => fun _ _ _ _ _ _ _ _ _ _ _ r h => by simp [pdu_answer.j0] at h
  | k + 1 => by
    have ih0 := pdu_answer.mono_l k
    · intro y0 y1 y2 y3 y4 y5 y6 y7 y8 y9 y10
      unfold pdu_answer.j0
      repeat' first
      | (with_reducible exact ih0 _ _ _ _ _ _ _ _ _ _ _)
      | (with_reducible exact pdu_some.mono _ _ _ _ _)
      | (with_reducible exact LeO.refl _)
      | (with_reducible exact LeO.none _)
      | (with_reducible refine LeO.ite ?_ ?_)
      | (with_reducible refine LeO.bind ?_ (fun _ => ?_))
      | exact ih0 _ _ _ _ _ _ _ _ _ _ _
      | exact pdu_some.mono _ _ _ _ _
      | exact LeO.none _
      | refine LeO.ite ?_ ?_
      | refine LeO.bind ?_ (fun _ => ?_)
theorem pdu_answer.mono : ∀ a0 a1 a2 a3 a4 a5 a6 a7 a8 k, LeO (pdu_answer.f k a0 a1 a2 a3 a4 a5 a6 a7 a8) (pdu_answer.f (k + 1) a0 a1 a2 a3 a4 a5 a6 a7 a8) := by
  intro a0 a1 a2 a3 a4 a5 a6 a7 a8 k
  have ih0 := pdu_answer.mono_l k
  unfold pdu_answer.f
  repeat' first
      | (with_reducible exact ih0 _ _ _ _ _ _ _ _ _ _ _)
      | (with_reducible exact pdu_some.mono _ _ _ _ _)
      | (with_reducible exact LeO.refl _)
      | (with_reducible exact LeO.none _)
      | (with_reducible refine LeO.ite ?_ ?_)
      | (with_reducible refine LeO.bind ?_ (fun _ => ?_))
      | exact ih0 _ _ _ _ _ _ _ _ _ _ _
      | exact pdu_some.mono _ _ _ _ _
      | exact LeO.none _
      | refine LeO.ite ?_ ?_
      | refine LeO.bind ?_ (fun _ => ?_)
set_option maxHeartbeats 8000000 in
set_option maxRecDepth 100000 in
theorem pdu_answer.calls (k : Nat) (a0_0 : Int) (a0_1 : Int) (a0_2 : Int) (A0_3 : Option Addr) (c0_3 : Nat) (l0_3 : List Int) (a0_4 : Int) (a0_5 : Int) (a0_6 : Int) (A1_0 : Option Addr) (c1_0 : Nat) (l1_0 : List Int) (a1_1 : Int) (r : Bool) (w : World) (hr0_3 : Kd.C (Kd.int .i64) w A0_3 l0_3.length l0_3) (hc0_3 : l0_3.length ≤ c0_3) (hr1_0 : Kd.C (Kd.int .i64) w A1_0 l1_0.length l1_0) (hc1_0 : l1_0.length ≤ c1_0) (h : pdu_answer.f k a0_0 a0_1 a0_2 l0_3 a0_4 a0_5 a0_6 l1_0 a1_1 = some r) :
    Calls Try.prog 66 #[.agg #[.int .i64 a0_0, .int .i64 a0_1, .int .i64 a0_2, .slice A0_3 l0_3.length c0_3, .int .i64 a0_4, .int .i64 a0_5, .int .i64 a0_6], .agg #[.slice A1_0 l1_0.length c1_0, .int .i64 a1_1]] w fun e w' => e = .returned (.bool r) ∧ Below w.heap.size w w' := by
  have hu24 := Try.underlying24
  have hu30 := Try.underlying30
  have HR0_3 := Aside0.mk hr0_3
  have HC0_3 := Aside0.mk hc0_3
  clear hr0_3 hc0_3
  have HR1_0 := Aside0.mk hr1_0
  have HC1_0 := Aside0.mk hc1_0
  clear hr1_0 hc1_0
  have HB := Aside0.mk (Below.refl w.heap.size w)
  have H : (if a1_1 = 0 then (if a0_0 = 1 then (pdu_answer.j0 k a0_0 (a0_0 == 1) a0_0 a0_1 a0_2 l0_3 a0_4 a0_5 a0_6 l1_0 a1_1) else (pdu_answer.j0 k a0_0 (a0_0 == 2) a0_0 a0_1 a0_2 l0_3 a0_4 a0_5 a0_6 l1_0 a1_1)) else ((pdu_within.f a1_1 1 255).bind fun t213 => (if t213 = true then (some ((l1_0.length : Int) == 0)) else (some false)))) = some r := h
  clear h
  by_cases c3 : a1_1 = 0
  · rw [if_pos c3] at H
    have c3b0 : (a1_1 == 0) = true := beq_iff_eq.mpr c3
    have c3b1 : (a1_1 != 0) = false := bne_eq_false_iff_eq.mpr c3
    clear c3
    have HC4 := Aside0.mk H
    clear H
    go_enter Try.func66, Try.ntmps66
    go_upto_if 19 with (first | ((with_reducible refine gate_dst (N := 2) rfl ?_); (try (refine gate_guard (by rfl) ?_; dsimp only)); refine box_event ?hg (N := 2) ?hd (cs := #[.int .i64 a0_0, .int .i64 a0_1, .int .i64 a0_2, .slice A0_3 l0_3.length c0_3, .int .i64 a0_4, .int .i64 a0_5, .int .i64 a0_6]) (t := 24) ?hr ?_; (case hd => rfl); (case hg => rfl); (case hr => first | (go_simp; done) | (go_simp; rfl)); intro gb211 hg w5 hbox hb; have n0_ := Aside0.mk (below_step (bl0_ HB) hb); have n1_ := Aside0.mk (hbox); have n2_ := Aside0.mk ((by rw [hg]; exact (below_size (bl0_ HB)) : w.heap.size ≤ gb211)); have n3_ := Aside0.mk ((by rw [hg]; exact (below_size (bl0_ HB)) : w.heap.size ≤ gb211)); clear HB; have HB := n0_; have BK211 := n1_; have GW211 := n2_; have GE211 := n3_; clear n0_ n1_ n2_ n3_; clear hb hbox hg) | ((with_reducible refine gate_dst (N := 3) rfl ?_); (try (refine gate_guard (by rfl) ?_; dsimp only)); refine box_event ?hg (N := 3) ?hd (cs := #[.slice A1_0 l1_0.length c1_0, .int .i64 a1_1]) (t := 30) ?hr ?_; (case hd => rfl); (case hg => rfl); (case hr => first | (go_simp; done) | (go_simp; rfl)); intro gb212 hg w6 hbox hb; have n0_ := Aside0.mk (blk_below (g := gb211) (o := .cells #[.int .i64 a0_0, .int .i64 a0_1, .int .i64 a0_2, .slice A0_3 l0_3.length c0_3, .int .i64 a0_4, .int .i64 a0_5, .int .i64 a0_6] 24 (0, 0)) (bk_ BK211) hb); have n1_ := Aside0.mk (below_step (bl1_ HB GE211) hb); have n2_ := Aside0.mk (hbox); have n3_ := Aside0.mk ((by rw [hg]; exact (below_size (bl1_ HB GE211)) : w.heap.size ≤ gb212)); have n4_ := Aside0.mk ((by rw [hg]; exact (below_size (bl1_ HB GE211)) : w.heap.size ≤ gb212)); have n5_ := Aside0.mk ((by rw [hg]; exact Nat.ne_of_lt (blk_lt (g := gb211) (o := .cells #[.int .i64 a0_0, .int .i64 a0_1, .int .i64 a0_2, .slice A0_3 l0_3.length c0_3, .int .i64 a0_4, .int .i64 a0_5, .int .i64 a0_6] 24 (0, 0)) (bk_ BK211)) : gb211 ≠ gb212)); have n6_ := Aside0.mk ((by rw [hg]; exact Nat.ne_of_gt (blk_lt (g := gb211) (o := .cells #[.int .i64 a0_0, .int .i64 a0_1, .int .i64 a0_2, .slice A0_3 l0_3.length c0_3, .int .i64 a0_4, .int .i64 a0_5, .int .i64 a0_6] 24 (0, 0)) (bk_ BK211)) : gb212 ≠ gb211)); clear BK211; clear HB; have BK211 := n0_; have HB := n1_; have BK212 := n2_; have GW212 := n3_; have GE212 := n4_; have NB211_212 := n5_; have NB212_211 := n6_; clear n0_ n1_ n2_ n3_ n4_ n5_ n6_; clear hb hbox hg; have hnb7 := NB212_211.out; have hnc7 := NB211_212.out; have hcz8_0 : w6.cell? ⟨gb212, 0, none⟩ = some (.slice A1_0 l1_0.length c1_0) := (blk_cell BK212.out 0).trans rfl; have hcz8_1 : w6.cell? ⟨gb212, 1, none⟩ = some (.int .i64 a1_1) := (blk_cell BK212.out 1).trans rfl; have hfz8_0 := blk_frozen BK212.out 0; have hfz8_1 := blk_frozen BK212.out 1; have hcz9_0 : w6.cell? ⟨gb211, 0, none⟩ = some (.int .i64 a0_0) := (blk_cell BK211.out 0).trans rfl; have hcz9_1 : w6.cell? ⟨gb211, 1, none⟩ = some (.int .i64 a0_1) := (blk_cell BK211.out 1).trans rfl; have hcz9_2 : w6.cell? ⟨gb211, 2, none⟩ = some (.int .i64 a0_2) := (blk_cell BK211.out 2).trans rfl; have hcz9_3 : w6.cell? ⟨gb211, 3, none⟩ = some (.slice A0_3 l0_3.length c0_3) := (blk_cell BK211.out 3).trans rfl; have hcz9_4 : w6.cell? ⟨gb211, 4, none⟩ = some (.int .i64 a0_4) := (blk_cell BK211.out 4).trans rfl; have hcz9_5 : w6.cell? ⟨gb211, 5, none⟩ = some (.int .i64 a0_5) := (blk_cell BK211.out 5).trans rfl; have hcz9_6 : w6.cell? ⟨gb211, 6, none⟩ = some (.int .i64 a0_6) := (blk_cell BK211.out 6).trans rfl; have hfz9_0 := blk_frozen BK211.out 0; have hfz9_1 := blk_frozen BK211.out 1; have hfz9_2 := blk_frozen BK211.out 2; have hfz9_3 := blk_frozen BK211.out 3; have hfz9_4 := blk_frozen BK211.out 4; have hfz9_5 := blk_frozen BK211.out 5; have hfz9_6 := blk_frozen BK211.out 6))
    (try simp only [Act.put, List.setIfInBounds_toArray, List.set_cons_zero, List.set_cons_succ])
    go_cut [19] (fun v19 wc => ∃ (kq : Nat) (x19_3 : Bool), v19 = .bool x19_3 ∧ Aside0 (pdu_answer.j0 kq a0_0 x19_3 a0_0 a0_1 a0_2 l0_3 a0_4 a0_5 a0_6 l1_0 a1_1 = some r) ∧ Aside0 (kq ≤ k) ∧ Aside0 (wc.heap[gb211]? = some (.cells #[.int .i64 a0_0, .int .i64 a0_1, .int .i64 a0_2, (.slice A0_3 l0_3.length c0_3), .int .i64 a0_4, .int .i64 a0_5, .int .i64 a0_6] 24 (0, 0))) ∧ Aside0 (wc.heap[gb212]? = some (.cells #[(.slice A1_0 l1_0.length c1_0), .int .i64 a1_1] 30 (0, 0))) ∧ Aside0 (Below w.heap.size w wc))
    case first =>
      have H := HC4.out
      clear HC4
      by_cases c10 : a0_0 = 1
      · rw [if_pos c10] at H
        have c10b0 : (a0_0 == 1) = true := beq_iff_eq.mpr c10
        have c10b1 : (a0_0 != 1) = false := bne_eq_false_iff_eq.mpr c10
        clear c10
        (first | rw [c10b0] | (simp only [i64_w, i32_w]; rw [c10b0]) | skip)
        have H' := Aside0.mk H
        clear H
        go_wp2
        go_meet
        case rel => exact ⟨_, ((a0_0 == 1)), (by first | rfl | (simp; done) | (simp [*]; done)), H', ⟨by first | omega | exact Nat.le_refl _⟩, ⟨bk_ BK211⟩, ⟨bk_ BK212⟩, ⟨bl2_ HB GE211 GE212⟩⟩
      · rw [if_neg c10] at H
        have c10b0 : (a0_0 == 1) = false := beq_eq_false_iff_ne.mpr c10
        have c10b1 : (a0_0 != 1) = true := bne_iff_ne.mpr c10
        (first | rw [c10b0] | (simp only [i64_w, i32_w]; rw [c10b0]) | skip)
        have H' := Aside0.mk H
        clear H
        go_wp2
        go_meet
        case rel => exact ⟨_, ((a0_0 == 2)), (by first | rfl | (simp; done) | (simp [*]; done)), H', ⟨by first | omega | exact Nat.le_refl _⟩, ⟨bk_ BK211⟩, ⟨bk_ BK212⟩, ⟨bl2_ HB GE211 GE212⟩⟩
    case rest =>
      clear HC4
      try clear c1
      try clear p2
      try clear c3
      try clear c3b0
      try clear c3b1
      try clear c6
      try clear c7
      try clear c10
      try clear c10b0
      try clear c10b1
      try clear hcz8_0
      try clear hcz8_1
      try clear hcz9_0
      try clear hcz9_1
      try clear hcz9_2
      try clear hcz9_3
      try clear hcz9_4
      try clear hcz9_5
      try clear hcz9_6
      try clear hfz8_0
      try clear hfz8_1
      try clear hfz9_0
      try clear hfz9_1
      try clear hfz9_2
      try clear hfz9_3
      try clear hfz9_4
      try clear hfz9_5
      try clear hfz9_6
      obtain ⟨kq, x19_3, rfl, HA, HJ3, BK211, BK212, HB⟩ := hcut
      cases kq with
      | zero => exact absurd HA.out (by simp [pdu_answer.j0])
      | succ kj3 =>
        have H := HA.out
        clear HA
        simp only [pdu_answer.j0] at H
        by_cases c11 : x19_3 = true
        · subst c11
          have H1 : ((pdu_some.f kj3 l1_0 a0_2 a0_2 1).bind fun t214 => (some t214)) = some r := by rw [if_pos rfl] at H; exact H
          clear H
          have H := H1
          clear H1
          replace H := Option.bind_eq_some_iff.mp H
          obtain ⟨t214, A120, H⟩ := H
          replace H : (some t214) = some r := H
          have A12 := Aside0.mk A120
          clear A120
          obtain rfl := Option.some.inj H
          have hnb13 := NB212_211.out
          have hnc13 := NB211_212.out
          have hcz14_0 : wc.cell? ⟨gb212, 0, none⟩ = some (.slice A1_0 l1_0.length c1_0) := (blk_cell BK212.out 0).trans rfl
          have hcz14_1 : wc.cell? ⟨gb212, 1, none⟩ = some (.int .i64 a1_1) := (blk_cell BK212.out 1).trans rfl
          have hfz14_0 := blk_frozen BK212.out 0
          have hfz14_1 := blk_frozen BK212.out 1
          have hcz15_0 : wc.cell? ⟨gb211, 0, none⟩ = some (.int .i64 a0_0) := (blk_cell BK211.out 0).trans rfl
          have hcz15_1 : wc.cell? ⟨gb211, 1, none⟩ = some (.int .i64 a0_1) := (blk_cell BK211.out 1).trans rfl
          have hcz15_2 : wc.cell? ⟨gb211, 2, none⟩ = some (.int .i64 a0_2) := (blk_cell BK211.out 2).trans rfl
          have hcz15_3 : wc.cell? ⟨gb211, 3, none⟩ = some (.slice A0_3 l0_3.length c0_3) := (blk_cell BK211.out 3).trans rfl
          have hcz15_4 : wc.cell? ⟨gb211, 4, none⟩ = some (.int .i64 a0_4) := (blk_cell BK211.out 4).trans rfl
          have hcz15_5 : wc.cell? ⟨gb211, 5, none⟩ = some (.int .i64 a0_5) := (blk_cell BK211.out 5).trans rfl
          have hcz15_6 : wc.cell? ⟨gb211, 6, none⟩ = some (.int .i64 a0_6) := (blk_cell BK211.out 6).trans rfl
          have hfz15_0 := blk_frozen BK211.out 0
          have hfz15_1 := blk_frozen BK211.out 1
          have hfz15_2 := blk_frozen BK211.out 2
          have hfz15_3 := blk_frozen BK211.out 3
          have hfz15_4 := blk_frozen BK211.out 4
          have hfz15_5 := blk_frozen BK211.out 5
          have hfz15_6 := blk_frozen BK211.out 6
          go_wp2_with (first | ((with_reducible refine gate_callee (f := 51) rfl ?_); refine goesL_ (some 28) rfl rfl Try.func51 (by kernel_rfl) rfl #[.slice A1_0 l1_0.length c1_0, .int .i64 a0_2, .int .i64 a0_2, .int .i64 1] rfl ar_ ?_; (with_reducible refine (pdu_some.calls kj3 _ _ l1_0 a0_2 a0_2 1 t214 _ ?side1 ?side2 A12.out).mono ?_); (case side1 => repeat (first | exact (Kd.C_below HR1_0.out HB.out) | (with_reducible refine Kd.C_alloc ?_ _) | (with_reducible refine Kd.C_drewN ?_ _) | (with_reducible refine Kd.C_drew ?_))); (case side2 => exact HC1_0.out); rintro e w' ⟨rfl, ⟨nd, rfl⟩⟩; refine ⟨_, rfl, ?_⟩))
          go_ret
          exact ⟨by first | rfl | (simp [errW_none, errW_some] <;> rfl) | (simp [*, errW_none, errW_some] <;> rfl), bl2_ HB GE211 GE212⟩
        · replace c11 := Bool.eq_false_iff.mpr c11
          subst c11
          have H1 : (if a0_0 = 3 then ((pdu_some.f kj3 l1_0 a0_2 a0_2 65535).bind fun t215 => (some t215)) else (if a0_0 = 4 then ((pdu_some.f kj3 l1_0 a0_2 a0_2 65535).bind fun t216 => (some t216)) else (if a0_0 = 23 then ((pdu_some.f kj3 l1_0 a0_2 a0_2 65535).bind fun t217 => (some t217)) else (some ((l1_0.length : Int) == 0))))) = some r := by rw [if_neg (show ¬ (false = true) by decide)] at H; exact H
          clear H
          have H := H1
          clear H1
          by_cases c16 : a0_0 = 3
          · rw [if_pos c16] at H
            have c16b0 : (a0_0 == 3) = true := beq_iff_eq.mpr c16
            have c16b1 : (a0_0 != 3) = false := bne_eq_false_iff_eq.mpr c16
            clear c16
            replace H := Option.bind_eq_some_iff.mp H
            obtain ⟨t215, A170, H⟩ := H
            replace H : (some t215) = some r := H
            have A17 := Aside0.mk A170
            clear A170
            obtain rfl := Option.some.inj H
            have hnb18 := NB212_211.out
            have hnc18 := NB211_212.out
            have hcz19_0 : wc.cell? ⟨gb212, 0, none⟩ = some (.slice A1_0 l1_0.length c1_0) := (blk_cell BK212.out 0).trans rfl
            have hcz19_1 : wc.cell? ⟨gb212, 1, none⟩ = some (.int .i64 a1_1) := (blk_cell BK212.out 1).trans rfl
            have hfz19_0 := blk_frozen BK212.out 0
            have hfz19_1 := blk_frozen BK212.out 1
            have hcz20_0 : wc.cell? ⟨gb211, 0, none⟩ = some (.int .i64 a0_0) := (blk_cell BK211.out 0).trans rfl
            have hcz20_1 : wc.cell? ⟨gb211, 1, none⟩ = some (.int .i64 a0_1) := (blk_cell BK211.out 1).trans rfl
            have hcz20_2 : wc.cell? ⟨gb211, 2, none⟩ = some (.int .i64 a0_2) := (blk_cell BK211.out 2).trans rfl
            have hcz20_3 : wc.cell? ⟨gb211, 3, none⟩ = some (.slice A0_3 l0_3.length c0_3) := (blk_cell BK211.out 3).trans rfl
            have hcz20_4 : wc.cell? ⟨gb211, 4, none⟩ = some (.int .i64 a0_4) := (blk_cell BK211.out 4).trans rfl
            have hcz20_5 : wc.cell? ⟨gb211, 5, none⟩ = some (.int .i64 a0_5) := (blk_cell BK211.out 5).trans rfl
            have hcz20_6 : wc.cell? ⟨gb211, 6, none⟩ = some (.int .i64 a0_6) := (blk_cell BK211.out 6).trans rfl
            have hfz20_0 := blk_frozen BK211.out 0
            have hfz20_1 := blk_frozen BK211.out 1
            have hfz20_2 := blk_frozen BK211.out 2
            have hfz20_3 := blk_frozen BK211.out 3
            have hfz20_4 := blk_frozen BK211.out 4
            have hfz20_5 := blk_frozen BK211.out 5
            have hfz20_6 := blk_frozen BK211.out 6
            go_wp2_with (first | ((with_reducible refine gate_callee (f := 51) rfl ?_); refine goesL_ (some 39) rfl rfl Try.func51 (by kernel_rfl) rfl #[.slice A1_0 l1_0.length c1_0, .int .i64 a0_2, .int .i64 a0_2, .int .i64 65535] rfl ar_ ?_; (with_reducible refine (pdu_some.calls kj3 _ _ l1_0 a0_2 a0_2 65535 t215 _ ?side1 ?side2 A17.out).mono ?_); (case side1 => repeat (first | exact (Kd.C_below HR1_0.out HB.out) | (with_reducible refine Kd.C_alloc ?_ _) | (with_reducible refine Kd.C_drewN ?_ _) | (with_reducible refine Kd.C_drew ?_))); (case side2 => exact HC1_0.out); rintro e w' ⟨rfl, ⟨nd, rfl⟩⟩; refine ⟨_, rfl, ?_⟩))
            go_ret
            exact ⟨by first | rfl | (simp [errW_none, errW_some] <;> rfl) | (simp [*, errW_none, errW_some] <;> rfl), bl2_ HB GE211 GE212⟩
          · rw [if_neg c16] at H
            have c16b0 : (a0_0 == 3) = false := beq_eq_false_iff_ne.mpr c16
            have c16b1 : (a0_0 != 3) = true := bne_iff_ne.mpr c16
            by_cases c21 : a0_0 = 4
            · rw [if_pos c21] at H
              have c21b0 : (a0_0 == 4) = true := beq_iff_eq.mpr c21
              have c21b1 : (a0_0 != 4) = false := bne_eq_false_iff_eq.mpr c21
              clear c21
              replace H := Option.bind_eq_some_iff.mp H
              obtain ⟨t216, A220, H⟩ := H
              replace H : (some t216) = some r := H
              have A22 := Aside0.mk A220
              clear A220
              obtain rfl := Option.some.inj H
              have hnb23 := NB212_211.out
              have hnc23 := NB211_212.out
              have hcz24_0 : wc.cell? ⟨gb212, 0, none⟩ = some (.slice A1_0 l1_0.length c1_0) := (blk_cell BK212.out 0).trans rfl
              have hcz24_1 : wc.cell? ⟨gb212, 1, none⟩ = some (.int .i64 a1_1) := (blk_cell BK212.out 1).trans rfl
              have hfz24_0 := blk_frozen BK212.out 0
              have hfz24_1 := blk_frozen BK212.out 1
              have hcz25_0 : wc.cell? ⟨gb211, 0, none⟩ = some (.int .i64 a0_0) := (blk_cell BK211.out 0).trans rfl
              have hcz25_1 : wc.cell? ⟨gb211, 1, none⟩ = some (.int .i64 a0_1) := (blk_cell BK211.out 1).trans rfl
              have hcz25_2 : wc.cell? ⟨gb211, 2, none⟩ = some (.int .i64 a0_2) := (blk_cell BK211.out 2).trans rfl
              have hcz25_3 : wc.cell? ⟨gb211, 3, none⟩ = some (.slice A0_3 l0_3.length c0_3) := (blk_cell BK211.out 3).trans rfl
              have hcz25_4 : wc.cell? ⟨gb211, 4, none⟩ = some (.int .i64 a0_4) := (blk_cell BK211.out 4).trans rfl
              have hcz25_5 : wc.cell? ⟨gb211, 5, none⟩ = some (.int .i64 a0_5) := (blk_cell BK211.out 5).trans rfl
              have hcz25_6 : wc.cell? ⟨gb211, 6, none⟩ = some (.int .i64 a0_6) := (blk_cell BK211.out 6).trans rfl
              have hfz25_0 := blk_frozen BK211.out 0
              have hfz25_1 := blk_frozen BK211.out 1
              have hfz25_2 := blk_frozen BK211.out 2
              have hfz25_3 := blk_frozen BK211.out 3
              have hfz25_4 := blk_frozen BK211.out 4
              have hfz25_5 := blk_frozen BK211.out 5
              have hfz25_6 := blk_frozen BK211.out 6
              go_wp2_with (first | ((with_reducible refine gate_callee (f := 51) rfl ?_); refine goesL_ (some 39) rfl rfl Try.func51 (by kernel_rfl) rfl #[.slice A1_0 l1_0.length c1_0, .int .i64 a0_2, .int .i64 a0_2, .int .i64 65535] rfl ar_ ?_; (with_reducible refine (pdu_some.calls kj3 _ _ l1_0 a0_2 a0_2 65535 t216 _ ?side1 ?side2 A22.out).mono ?_); (case side1 => repeat (first | exact (Kd.C_below HR1_0.out HB.out) | (with_reducible refine Kd.C_alloc ?_ _) | (with_reducible refine Kd.C_drewN ?_ _) | (with_reducible refine Kd.C_drew ?_))); (case side2 => exact HC1_0.out); rintro e w' ⟨rfl, ⟨nd, rfl⟩⟩; refine ⟨_, rfl, ?_⟩))
              go_ret
              exact ⟨by first | rfl | (simp [errW_none, errW_some] <;> rfl) | (simp [*, errW_none, errW_some] <;> rfl), bl2_ HB GE211 GE212⟩
            · rw [if_neg c21] at H
              have c21b0 : (a0_0 == 4) = false := beq_eq_false_iff_ne.mpr c21
              have c21b1 : (a0_0 != 4) = true := bne_iff_ne.mpr c21
              by_cases c26 : a0_0 = 23
              · rw [if_pos c26] at H
                have c26b0 : (a0_0 == 23) = true := beq_iff_eq.mpr c26
                have c26b1 : (a0_0 != 23) = false := bne_eq_false_iff_eq.mpr c26
                clear c26
                replace H := Option.bind_eq_some_iff.mp H
                obtain ⟨t217, A270, H⟩ := H
                replace H : (some t217) = some r := H
                have A27 := Aside0.mk A270
                clear A270
                obtain rfl := Option.some.inj H
                have hnb28 := NB212_211.out
                have hnc28 := NB211_212.out
                have hcz29_0 : wc.cell? ⟨gb212, 0, none⟩ = some (.slice A1_0 l1_0.length c1_0) := (blk_cell BK212.out 0).trans rfl
                have hcz29_1 : wc.cell? ⟨gb212, 1, none⟩ = some (.int .i64 a1_1) := (blk_cell BK212.out 1).trans rfl
                have hfz29_0 := blk_frozen BK212.out 0
                have hfz29_1 := blk_frozen BK212.out 1
                have hcz30_0 : wc.cell? ⟨gb211, 0, none⟩ = some (.int .i64 a0_0) := (blk_cell BK211.out 0).trans rfl
                have hcz30_1 : wc.cell? ⟨gb211, 1, none⟩ = some (.int .i64 a0_1) := (blk_cell BK211.out 1).trans rfl
                have hcz30_2 : wc.cell? ⟨gb211, 2, none⟩ = some (.int .i64 a0_2) := (blk_cell BK211.out 2).trans rfl
                have hcz30_3 : wc.cell? ⟨gb211, 3, none⟩ = some (.slice A0_3 l0_3.length c0_3) := (blk_cell BK211.out 3).trans rfl
                have hcz30_4 : wc.cell? ⟨gb211, 4, none⟩ = some (.int .i64 a0_4) := (blk_cell BK211.out 4).trans rfl
                have hcz30_5 : wc.cell? ⟨gb211, 5, none⟩ = some (.int .i64 a0_5) := (blk_cell BK211.out 5).trans rfl
                have hcz30_6 : wc.cell? ⟨gb211, 6, none⟩ = some (.int .i64 a0_6) := (blk_cell BK211.out 6).trans rfl
                have hfz30_0 := blk_frozen BK211.out 0
                have hfz30_1 := blk_frozen BK211.out 1
                have hfz30_2 := blk_frozen BK211.out 2
                have hfz30_3 := blk_frozen BK211.out 3
                have hfz30_4 := blk_frozen BK211.out 4
                have hfz30_5 := blk_frozen BK211.out 5
                have hfz30_6 := blk_frozen BK211.out 6
                go_wp2_with (first | ((with_reducible refine gate_callee (f := 51) rfl ?_); refine goesL_ (some 39) rfl rfl Try.func51 (by kernel_rfl) rfl #[.slice A1_0 l1_0.length c1_0, .int .i64 a0_2, .int .i64 a0_2, .int .i64 65535] rfl ar_ ?_; (with_reducible refine (pdu_some.calls kj3 _ _ l1_0 a0_2 a0_2 65535 t217 _ ?side1 ?side2 A27.out).mono ?_); (case side1 => repeat (first | exact (Kd.C_below HR1_0.out HB.out) | (with_reducible refine Kd.C_alloc ?_ _) | (with_reducible refine Kd.C_drewN ?_ _) | (with_reducible refine Kd.C_drew ?_))); (case side2 => exact HC1_0.out); rintro e w' ⟨rfl, ⟨nd, rfl⟩⟩; refine ⟨_, rfl, ?_⟩))
                go_ret
                exact ⟨by first | rfl | (simp [errW_none, errW_some] <;> rfl) | (simp [*, errW_none, errW_some] <;> rfl), bl2_ HB GE211 GE212⟩
              · rw [if_neg c26] at H
                have c26b0 : (a0_0 == 23) = false := beq_eq_false_iff_ne.mpr c26
                have c26b1 : (a0_0 != 23) = true := bne_iff_ne.mpr c26
                obtain rfl := Option.some.inj H
                have hnb31 := NB212_211.out
                have hnc31 := NB211_212.out
                have hcz32_0 : wc.cell? ⟨gb212, 0, none⟩ = some (.slice A1_0 l1_0.length c1_0) := (blk_cell BK212.out 0).trans rfl
                have hcz32_1 : wc.cell? ⟨gb212, 1, none⟩ = some (.int .i64 a1_1) := (blk_cell BK212.out 1).trans rfl
                have hfz32_0 := blk_frozen BK212.out 0
                have hfz32_1 := blk_frozen BK212.out 1
                go_wp2
                go_ret
                exact ⟨by first | rfl | (simp [errW_none, errW_some] <;> rfl) | (simp [*, errW_none, errW_some] <;> rfl), bl2_ HB GE211 GE212⟩
  · rw [if_neg c3] at H
    have c3b0 : (a1_1 == 0) = false := beq_eq_false_iff_ne.mpr c3
    have c3b1 : (a1_1 != 0) = true := bne_iff_ne.mpr c3
    replace H := Option.bind_eq_some_iff.mp H
    obtain ⟨t213, A330, H⟩ := H
    replace H : (if t213 = true then (some ((l1_0.length : Int) == 0)) else (some false)) = some r := H
    have A33 := Aside0.mk A330
    clear A330
    by_cases c34 : t213 = true
    · subst c34
      have H1 : (some ((l1_0.length : Int) == 0)) = some r := by rw [if_pos rfl] at H; exact H
      clear H
      have H := H1
      clear H1
      obtain rfl := Option.some.inj H
      go_enter Try.func66, Try.ntmps66
      go_wp2_with (first | ((with_reducible refine gate_dst (N := 2) rfl ?_); (try (refine gate_guard (by rfl) ?_; dsimp only)); refine box_event ?hg (N := 2) ?hd (cs := #[.int .i64 a0_0, .int .i64 a0_1, .int .i64 a0_2, .slice A0_3 l0_3.length c0_3, .int .i64 a0_4, .int .i64 a0_5, .int .i64 a0_6]) (t := 24) ?hr ?_; (case hd => rfl); (case hg => rfl); (case hr => first | (go_simp; done) | (go_simp; rfl)); intro gb211 hg w35 hbox hb; have n0_ := Aside0.mk (below_step (bl0_ HB) hb); have n1_ := Aside0.mk (hbox); have n2_ := Aside0.mk ((by rw [hg]; exact (below_size (bl0_ HB)) : w.heap.size ≤ gb211)); have n3_ := Aside0.mk ((by rw [hg]; exact (below_size (bl0_ HB)) : w.heap.size ≤ gb211)); clear HB; have HB := n0_; have BK211 := n1_; have GW211 := n2_; have GE211 := n3_; clear n0_ n1_ n2_ n3_; clear hb hbox hg) | ((with_reducible refine gate_dst (N := 3) rfl ?_); (try (refine gate_guard (by rfl) ?_; dsimp only)); refine box_event ?hg (N := 3) ?hd (cs := #[.slice A1_0 l1_0.length c1_0, .int .i64 a1_1]) (t := 30) ?hr ?_; (case hd => rfl); (case hg => rfl); (case hr => first | (go_simp; done) | (go_simp; rfl)); intro gb212 hg w36 hbox hb; have n0_ := Aside0.mk (blk_below (g := gb211) (o := .cells #[.int .i64 a0_0, .int .i64 a0_1, .int .i64 a0_2, .slice A0_3 l0_3.length c0_3, .int .i64 a0_4, .int .i64 a0_5, .int .i64 a0_6] 24 (0, 0)) (bk_ BK211) hb); have n1_ := Aside0.mk (below_step (bl1_ HB GE211) hb); have n2_ := Aside0.mk (hbox); have n3_ := Aside0.mk ((by rw [hg]; exact (below_size (bl1_ HB GE211)) : w.heap.size ≤ gb212)); have n4_ := Aside0.mk ((by rw [hg]; exact (below_size (bl1_ HB GE211)) : w.heap.size ≤ gb212)); have n5_ := Aside0.mk ((by rw [hg]; exact Nat.ne_of_lt (blk_lt (g := gb211) (o := .cells #[.int .i64 a0_0, .int .i64 a0_1, .int .i64 a0_2, .slice A0_3 l0_3.length c0_3, .int .i64 a0_4, .int .i64 a0_5, .int .i64 a0_6] 24 (0, 0)) (bk_ BK211)) : gb211 ≠ gb212)); have n6_ := Aside0.mk ((by rw [hg]; exact Nat.ne_of_gt (blk_lt (g := gb211) (o := .cells #[.int .i64 a0_0, .int .i64 a0_1, .int .i64 a0_2, .slice A0_3 l0_3.length c0_3, .int .i64 a0_4, .int .i64 a0_5, .int .i64 a0_6] 24 (0, 0)) (bk_ BK211)) : gb212 ≠ gb211)); clear BK211; clear HB; have BK211 := n0_; have HB := n1_; have BK212 := n2_; have GW212 := n3_; have GE212 := n4_; have NB211_212 := n5_; have NB212_211 := n6_; clear n0_ n1_ n2_ n3_ n4_ n5_ n6_; clear hb hbox hg; have hnb37 := NB212_211.out; have hnc37 := NB211_212.out; have hcz38_0 : w36.cell? ⟨gb212, 0, none⟩ = some (.slice A1_0 l1_0.length c1_0) := (blk_cell BK212.out 0).trans rfl; have hcz38_1 : w36.cell? ⟨gb212, 1, none⟩ = some (.int .i64 a1_1) := (blk_cell BK212.out 1).trans rfl; have hfz38_0 := blk_frozen BK212.out 0; have hfz38_1 := blk_frozen BK212.out 1) | ((with_reducible refine gate_callee (f := 49) rfl ?_); refine goesL_ (some 10) rfl rfl Try.func49 (by kernel_rfl) rfl #[.int .i64 a1_1, .int .i64 1, .int .i64 255] rfl ar_ ?_; (with_reducible refine (pdu_within.calls a1_1 1 255 true _ A33.out).mono ?_); rintro e w' ⟨rfl, ⟨nd, rfl⟩⟩; refine ⟨_, rfl, ?_⟩))
      go_ret
      exact ⟨by first | rfl | (simp [errW_none, errW_some] <;> rfl) | (simp [*, errW_none, errW_some] <;> rfl), bl2_ HB GE211 GE212⟩
    · replace c34 := Bool.eq_false_iff.mpr c34
      subst c34
      have H1 : (some false) = some r := by rw [if_neg (show ¬ (false = true) by decide)] at H; exact H
      clear H
      have H := H1
      clear H1
      obtain rfl := Option.some.inj H
      go_enter Try.func66, Try.ntmps66
      go_wp2_with (first | ((with_reducible refine gate_dst (N := 2) rfl ?_); (try (refine gate_guard (by rfl) ?_; dsimp only)); refine box_event ?hg (N := 2) ?hd (cs := #[.int .i64 a0_0, .int .i64 a0_1, .int .i64 a0_2, .slice A0_3 l0_3.length c0_3, .int .i64 a0_4, .int .i64 a0_5, .int .i64 a0_6]) (t := 24) ?hr ?_; (case hd => rfl); (case hg => rfl); (case hr => first | (go_simp; done) | (go_simp; rfl)); intro gb211 hg w39 hbox hb; have n0_ := Aside0.mk (below_step (bl0_ HB) hb); have n1_ := Aside0.mk (hbox); have n2_ := Aside0.mk ((by rw [hg]; exact (below_size (bl0_ HB)) : w.heap.size ≤ gb211)); have n3_ := Aside0.mk ((by rw [hg]; exact (below_size (bl0_ HB)) : w.heap.size ≤ gb211)); clear HB; have HB := n0_; have BK211 := n1_; have GW211 := n2_; have GE211 := n3_; clear n0_ n1_ n2_ n3_; clear hb hbox hg) | ((with_reducible refine gate_dst (N := 3) rfl ?_); (try (refine gate_guard (by rfl) ?_; dsimp only)); refine box_event ?hg (N := 3) ?hd (cs := #[.slice A1_0 l1_0.length c1_0, .int .i64 a1_1]) (t := 30) ?hr ?_; (case hd => rfl); (case hg => rfl); (case hr => first | (go_simp; done) | (go_simp; rfl)); intro gb212 hg w40 hbox hb; have n0_ := Aside0.mk (blk_below (g := gb211) (o := .cells #[.int .i64 a0_0, .int .i64 a0_1, .int .i64 a0_2, .slice A0_3 l0_3.length c0_3, .int .i64 a0_4, .int .i64 a0_5, .int .i64 a0_6] 24 (0, 0)) (bk_ BK211) hb); have n1_ := Aside0.mk (below_step (bl1_ HB GE211) hb); have n2_ := Aside0.mk (hbox); have n3_ := Aside0.mk ((by rw [hg]; exact (below_size (bl1_ HB GE211)) : w.heap.size ≤ gb212)); have n4_ := Aside0.mk ((by rw [hg]; exact (below_size (bl1_ HB GE211)) : w.heap.size ≤ gb212)); have n5_ := Aside0.mk ((by rw [hg]; exact Nat.ne_of_lt (blk_lt (g := gb211) (o := .cells #[.int .i64 a0_0, .int .i64 a0_1, .int .i64 a0_2, .slice A0_3 l0_3.length c0_3, .int .i64 a0_4, .int .i64 a0_5, .int .i64 a0_6] 24 (0, 0)) (bk_ BK211)) : gb211 ≠ gb212)); have n6_ := Aside0.mk ((by rw [hg]; exact Nat.ne_of_gt (blk_lt (g := gb211) (o := .cells #[.int .i64 a0_0, .int .i64 a0_1, .int .i64 a0_2, .slice A0_3 l0_3.length c0_3, .int .i64 a0_4, .int .i64 a0_5, .int .i64 a0_6] 24 (0, 0)) (bk_ BK211)) : gb212 ≠ gb211)); clear BK211; clear HB; have BK211 := n0_; have HB := n1_; have BK212 := n2_; have GW212 := n3_; have GE212 := n4_; have NB211_212 := n5_; have NB212_211 := n6_; clear n0_ n1_ n2_ n3_ n4_ n5_ n6_; clear hb hbox hg; have hnb41 := NB212_211.out; have hnc41 := NB211_212.out; have hcz42_0 : w40.cell? ⟨gb212, 0, none⟩ = some (.slice A1_0 l1_0.length c1_0) := (blk_cell BK212.out 0).trans rfl; have hcz42_1 : w40.cell? ⟨gb212, 1, none⟩ = some (.int .i64 a1_1) := (blk_cell BK212.out 1).trans rfl; have hfz42_0 := blk_frozen BK212.out 0; have hfz42_1 := blk_frozen BK212.out 1) | ((with_reducible refine gate_callee (f := 49) rfl ?_); refine goesL_ (some 10) rfl rfl Try.func49 (by kernel_rfl) rfl #[.int .i64 a1_1, .int .i64 1, .int .i64 255] rfl ar_ ?_; (with_reducible refine (pdu_within.calls a1_1 1 255 false _ A33.out).mono ?_); rintro e w' ⟨rfl, ⟨nd, rfl⟩⟩; refine ⟨_, rfl, ?_⟩))
      go_ret
      exact ⟨by first | rfl | (simp [errW_none, errW_some] <;> rfl) | (simp [*, errW_none, errW_some] <;> rfl), bl2_ HB GE211 GE212⟩
end Go.Proofs.Ytocicifgglkaeaa.PQ
end

section
namespace Go.Proofs.Ytocicifgglkaeaa.PQ
open Go.RowKit Go.Proofs.YtocicifgglkaeaaW.PrintWords Go.Proofs.YtocicifgglkaeaaW.PrintLast Go.Proofs.YtocicifgglkaeaaW.PrintMore
attribute [local go_sem] max2_int min2_int max_two min_two max_three min_three max_four min_four   
set_option linter.unusedVariables false
set_option linter.unusedSimpArgs false
open Go.Proofs.Ytocicifgglkaeaa.Ext Go.Proofs.Ytocicifgglkaeaa.PP Go.Proofs.Ytocicifgglkaeaa.ExtF
mutual
def pdu_AnswerBytes.j0 : Nat → Bool → Int → Int → Int → List Int → Int → Int → Int → List Int → Int → Option (List Int × Int)
  | 0, _, _, _, _, _, _, _, _, _, _ => none
  | k + 1, x15, x219000, x219001, x219002, x219003, x219004, x219005, x219006, x220000, x220001 => if x15 = true then (some (([] : List Int), 1)) else (if x220001 = 0 then ((some (([(x219000) % 256] : List Int) : List Int)).bind fun y225 => (if x219000 = 1 then (pdu_AnswerBytes.j1 k y225 x219000 (x219000 == 1) x219000 x219001 x219002 x219003 x219004 x219005 x219006 x220000 x220001) else (pdu_AnswerBytes.j1 k y225 x219000 (x219000 == 2) x219000 x219001 x219002 x219003 x219004 x219005 x219006 x220000 x220001))) else (some ((([Go.bits .or .u8 ((x219000) % 256) 128, (x220001) % 256] : List Int)), 0)))
def pdu_AnswerBytes.j1 : Nat → List Int → Int → Bool → Int → Int → Int → List Int → Int → Int → Int → List Int → Int → Option (List Int × Int)
  | 0, _, _, _, _, _, _, _, _, _, _, _, _ => none
  | k + 1, x6, x32, x33, x219000, x219001, x219002, x219003, x219004, x219005, x219006, x220000, x220001 => if x33 = true then ((pdu_packed.f k x220000).bind fun t228 => ((pdu_counted.f x6 t228).bind fun t231 => (some (t231, 0)))) else (if x32 = 3 then (pdu_AnswerBytes.j2 k x6 x32 (x32 == 3) x219000 x219001 x219002 x219003 x219004 x219005 x219006 x220000 x220001) else (if x32 = 4 then (pdu_AnswerBytes.j2 k x6 x32 (x32 == 4) x219000 x219001 x219002 x219003 x219004 x219005 x219006 x220000 x220001) else (pdu_AnswerBytes.j2 k x6 x32 (x32 == 23) x219000 x219001 x219002 x219003 x219004 x219005 x219006 x220000 x220001)))
def pdu_AnswerBytes.j2 : Nat → List Int → Int → Bool → Int → Int → Int → List Int → Int → Int → Int → List Int → Int → Option (List Int × Int)
  | 0, _, _, _, _, _, _, _, _, _, _, _, _ => none
  | k + 1, x6, x32, x41, x219000, x219001, x219002, x219003, x219004, x219005, x219006, x220000, x220001 => if x41 = true then ((pdu_lay.f ([] : List Int) x220000).bind fun t234 => ((pdu_counted.f x6 t234).bind fun t237 => (some (t237, 0)))) else (if x32 = 15 then (pdu_AnswerBytes.j3 k x6 (x32 == 15) x219000 x219001 x219002 x219003 x219004 x219005 x219006) else (pdu_AnswerBytes.j3 k x6 (x32 == 16) x219000 x219001 x219002 x219003 x219004 x219005 x219006))
def pdu_AnswerBytes.j3 : Nat → List Int → Bool → Int → Int → Int → List Int → Int → Int → Int → Option (List Int × Int)
  | 0, _, _, _, _, _, _, _, _, _ => none
  | k + 1, x6, x50, x219000, x219001, x219002, x219003, x219004, x219005, x219006 => if x50 = true then ((pdu_lay.f x6 (([x219001, x219002] : List Int))).bind fun t243 => (some (t243, 0))) else ((pdu_Bytes.f k x219000 x219001 x219002 x219003 x219004 x219005 x219006).bind fun bt246 => (some (bt246.1, bt246.2)))
end
def pdu_AnswerBytes.f (k : Nat) (a0_0 : Int) (a0_1 : Int) (a0_2 : Int) (l0_3 : List Int) (a0_4 : Int) (a0_5 : Int) (a0_6 : Int) (l1_0 : List Int) (a1_1 : Int) : Option (List Int × Int) := (pdu_Check.f k a0_0 a0_1 a0_2 l0_3 a0_4 a0_5 a0_6).bind fun t220 => (if t220 = 0 then ((pdu_answer.f k a0_0 a0_1 a0_2 l0_3 a0_4 a0_5 a0_6 l1_0 a1_1).bind fun t221 => (pdu_AnswerBytes.j0 k (!t221) a0_0 a0_1 a0_2 l0_3 a0_4 a0_5 a0_6 l1_0 a1_1)) else (pdu_AnswerBytes.j0 k true a0_0 a0_1 a0_2 l0_3 a0_4 a0_5 a0_6 l1_0 a1_1))
theorem pdu_AnswerBytes.mono_l : ∀ k, (∀ y0 y1 y2 y3 y4 y5 y6 y7 y8 y9, LeO (pdu_AnswerBytes.j0 k y0 y1 y2 y3 y4 y5 y6 y7 y8 y9) (pdu_AnswerBytes.j0 (k + 1) y0 y1 y2 y3 y4 y5 y6 y7 y8 y9)) ∧ (∀ y0 y1 y2 y3 y4 y5 y6 y7 y8 y9 y10 y11, LeO (pdu_AnswerBytes.j1 k y0 y1 y2 y3 y4 y5 y6 y7 y8 y9 y10 y11) (pdu_AnswerBytes.j1 (k + 1) y0 y1 y2 y3 y4 y5 y6 y7 y8 y9 y10 y11)) ∧ (∀ y0 y1 y2 y3 y4 y5 y6 y7 y8 y9 y10 y11, LeO (pdu_AnswerBytes.j2 k y0 y1 y2 y3 y4 y5 y6 y7 y8 y9 y10 y11) (pdu_AnswerBytes.j2 (k + 1) y0 y1 y2 y3 y4 y5 y6 y7 y8 y9 y10 y11)) ∧ (∀ y0 y1 y2 y3 y4 y5 y6 y7 y8, LeO (pdu_AnswerBytes.j3 k y0 y1 y2 y3 y4 y5 y6 y7 y8) (pdu_AnswerBytes.j3 (k + 1) y0 y1 y2 y3 y4 y5 y6 y7 y8))
  | 0 => ⟨fun _ _ _ _ _ _ _ _ _ _ r h => by simp [pdu_AnswerBytes.j0] at h, fun _ _ _ _ _ _ _ _ _ _ _ _ r h => by simp [pdu_AnswerBytes.j1] at h, fun _ _ _ _ _ _ _ _ _ _ _ _ r h => by simp [pdu_AnswerBytes.j2] at h, fun _ _ _ _ _ _ _ _ _ r h => by simp [pdu_AnswerBytes.j3] at h⟩
  | k + 1 => by
    obtain ⟨ih0, ih1, ih2, ih3⟩ := pdu_AnswerBytes.mono_l k
    refine ⟨?_, ?_, ?_, ?_⟩
    · intro y0 y1 y2 y3 y4 y5 y6 y7 y8 y9
      unfold pdu_AnswerBytes.j0
      repeat' first
      | (with_reducible exact ih0 _ _ _ _ _ _ _ _ _ _)
      | (with_reducible exact ih1 _ _ _ _ _ _ _ _ _ _ _ _)
      | (with_reducible exact ih2 _ _ _ _ _ _ _ _ _ _ _ _)
      | (with_reducible exact ih3 _ _ _ _ _ _ _ _ _)
      | (with_reducible exact pdu_Bytes.mono _ _ _ _ _ _ _ _)
      | (with_reducible exact pdu_Check.mono _ _ _ _ _ _ _ _)
      | (with_reducible exact pdu_answer.mono _ _ _ _ _ _ _ _ _ _)
      | (with_reducible exact pdu_packed.mono _ _)
      | (with_reducible exact LeO.refl _)
      | (with_reducible exact LeO.none _)
      | (with_reducible refine LeO.ite ?_ ?_)
      | (with_reducible refine LeO.bind ?_ (fun _ => ?_))
      | exact ih0 _ _ _ _ _ _ _ _ _ _
      | exact ih1 _ _ _ _ _ _ _ _ _ _ _ _
      | exact ih2 _ _ _ _ _ _ _ _ _ _ _ _
      | exact ih3 _ _ _ _ _ _ _ _ _
      | exact pdu_Bytes.mono _ _ _ _ _ _ _ _
      | exact pdu_Check.mono _ _ _ _ _ _ _ _
      | exact pdu_answer.mono _ _ _ _ _ _ _ _ _ _
      | exact pdu_packed.mono _ _
      | exact LeO.none _
      | refine LeO.ite ?_ ?_
      | refine LeO.bind ?_ (fun _ => ?_)
    · intro y0 y1 y2 y3 y4 y5 y6 y7 y8 y9 y10 y11
      unfold pdu_AnswerBytes.j1
      repeat' first
      | (with_reducible exact ih0 _ _ _ _ _ _ _ _ _ _)
      | (with_reducible exact ih1 _ _ _ _ _ _ _ _ _ _ _ _)
      | (with_reducible exact ih2 _ _ _ _ _ _ _ _ _ _ _ _)
      | (with_reducible exact ih3 _ _ _ _ _ _ _ _ _)
      | (with_reducible exact pdu_Bytes.mono _ _ _ _ _ _ _ _)
      | (with_reducible exact pdu_Check.mono _ _ _ _ _ _ _ _)
      | (with_reducible exact pdu_answer.mono _ _ _ _ _ _ _ _ _ _)
      | (with_reducible exact pdu_packed.mono _ _)
      | (with_reducible exact LeO.refl _)
      | (with_reducible exact LeO.none _)
      | (with_reducible refine LeO.ite ?_ ?_)
      | (with_reducible refine LeO.bind ?_ (fun _ => ?_))
      | exact ih0 _ _ _ _ _ _ _ _ _ _
      | exact ih1 _ _ _ _ _ _ _ _ _ _ _ _
      | exact ih2 _ _ _ _ _ _ _ _ _ _ _ _
      | exact ih3 _ _ _ _ _ _ _ _ _
      | exact pdu_Bytes.mono _ _ _ _ _ _ _ _
      | exact pdu_Check.mono _ _ _ _ _ _ _ _
      | exact pdu_answer.mono _ _ _ _ _ _ _ _ _ _
      | exact pdu_packed.mono _ _
      | exact LeO.none _
      | refine LeO.ite ?_ ?_
      | refine LeO.bind ?_ (fun _ => ?_)
    · intro y0 y1 y2 y3 y4 y5 y6 y7 y8 y9 y10 y11
      unfold pdu_AnswerBytes.j2
      repeat' first
      | (with_reducible exact ih0 _ _ _ _ _ _ _ _ _ _)
      | (with_reducible exact ih1 _ _ _ _ _ _ _ _ _ _ _ _)
      | (with_reducible exact ih2 _ _ _ _ _ _ _ _ _ _ _ _)
      | (with_reducible exact ih3 _ _ _ _ _ _ _ _ _)
      | (with_reducible exact pdu_Bytes.mono _ _ _ _ _ _ _ _)
      | (with_reducible exact pdu_Check.mono _ _ _ _ _ _ _ _)
      | (with_reducible exact pdu_answer.mono _ _ _ _ _ _ _ _ _ _)
      | (with_reducible exact pdu_packed.mono _ _)
      | (with_reducible exact LeO.refl _)
      | (with_reducible exact LeO.none _)
      | (with_reducible refine LeO.ite ?_ ?_)
      | (with_reducible refine LeO.bind ?_ (fun _ => ?_))
      | exact ih0 _ _ _ _ _ _ _ _ _ _
      | exact ih1 _ _ _ _ _ _ _ _ _ _ _ _
      | exact ih2 _ _ _ _ _ _ _ _ _ _ _ _
      | exact ih3 _ _ _ _ _ _ _ _ _
      | exact pdu_Bytes.mono _ _ _ _ _ _ _ _
      | exact pdu_Check.mono _ _ _ _ _ _ _ _
      | exact pdu_answer.mono _ _ _ _ _ _ _ _ _ _
      | exact pdu_packed.mono _ _
      | exact LeO.none _
      | refine LeO.ite ?_ ?_
      | refine LeO.bind ?_ (fun _ => ?_)
    · intro y0 y1 y2 y3 y4 y5 y6 y7 y8
      unfold pdu_AnswerBytes.j3
      repeat' first
      | (with_reducible exact ih0 _ _ _ _ _ _ _ _ _ _)
      | (with_reducible exact ih1 _ _ _ _ _ _ _ _ _ _ _ _)
      | (with_reducible exact ih2 _ _ _ _ _ _ _ _ _ _ _ _)
      | (with_reducible exact ih3 _ _ _ _ _ _ _ _ _)
      | (with_reducible exact pdu_Bytes.mono _ _ _ _ _ _ _ _)
      | (with_reducible exact pdu_Check.mono _ _ _ _ _ _ _ _)
      | (with_reducible exact pdu_answer.mono _ _ _ _ _ _ _ _ _ _)
      | (with_reducible exact pdu_packed.mono _ _)
      | (with_reducible exact LeO.refl _)
      | (with_reducible exact LeO.none _)
      | (with_reducible refine LeO.ite ?_ ?_)
      | (with_reducible refine LeO.bind ?_ (fun _ => ?_))
      | exact ih0 _ _ _ _ _ _ _ _ _ _
      | exact ih1 _ _ _ _ _ _ _ _ _ _ _ _
      | exact ih2 _ _ _ _ _ _ _ _ _ _ _ _
      | exact ih3 _ _ _ _ _ _ _ _ _
      | exact pdu_Bytes.mono _ _ _ _ _ _ _ _
      | exact pdu_Check.mono _ _ _ _ _ _ _ _
      | exact pdu_answer.mono _ _ _ _ _ _ _ _ _ _
      | exact pdu_packed.mono _ _
      | exact LeO.none _
      | refine LeO.ite ?_ ?_
      | refine LeO.bind ?_ (fun _ => ?_)
theorem pdu_AnswerBytes.mono : ∀ a0 a1 a2 a3 a4 a5 a6 a7 a8 k, LeO (pdu_AnswerBytes.f k a0 a1 a2 a3 a4 a5 a6 a7 a8) (pdu_AnswerBytes.f (k + 1) a0 a1 a2 a3 a4 a5 a6 a7 a8) := by
  intro a0 a1 a2 a3 a4 a5 a6 a7 a8 k
  obtain ⟨ih0, ih1, ih2, ih3⟩ := pdu_AnswerBytes.mono_l k
  unfold pdu_AnswerBytes.f
  repeat' first
      | (with_reducible exact ih0 _ _ _ _ _ _ _ _ _ _)
      | (with_reducible exact ih1 _ _ _ _ _ _ _ _ _ _ _ _)
      | (with_reducible exact ih2 _ _ _ _ _ _ _ _ _ _ _ _)
      | (with_reducible exact ih3 _ _ _ _ _ _ _ _ _)
      | (with_reducible exact pdu_Bytes.mono _ _ _ _ _ _ _ _)
      | (with_reducible exact pdu_Check.mono _ _ _ _ _ _ _ _)
      | (with_reducible exact pdu_answer.mono _ _ _ _ _ _ _ _ _ _)
      | (with_reducible exact pdu_packed.mono _ _)
      | (with_reducible exact LeO.refl _)
      | (with_reducible exact LeO.none _)
      | (with_reducible refine LeO.ite ?_ ?_)
      | (with_reducible refine LeO.bind ?_ (fun _ => ?_))
      | exact ih0 _ _ _ _ _ _ _ _ _ _
      | exact ih1 _ _ _ _ _ _ _ _ _ _ _ _
      | exact ih2 _ _ _ _ _ _ _ _ _ _ _ _
      | exact ih3 _ _ _ _ _ _ _ _ _
      | exact pdu_Bytes.mono _ _ _ _ _ _ _ _
      | exact pdu_Check.mono _ _ _ _ _ _ _ _
      | exact pdu_answer.mono _ _ _ _ _ _ _ _ _ _
      | exact pdu_packed.mono _ _
      | exact LeO.none _
      | refine LeO.ite ?_ ?_
      | refine LeO.bind ?_ (fun _ => ?_)
set_option maxHeartbeats 8000000 in
set_option maxRecDepth 100000 in
theorem pdu_AnswerBytes.calls (k : Nat) (a0_0 : Int) (a0_1 : Int) (a0_2 : Int) (A0_3 : Option Addr) (c0_3 : Nat) (l0_3 : List Int) (a0_4 : Int) (a0_5 : Int) (a0_6 : Int) (A1_0 : Option Addr) (c1_0 : Nat) (l1_0 : List Int) (a1_1 : Int) (r1 : List Int) (r2 : Int) (w : World) (hr0_3 : Kd.C (Kd.int .i64) w A0_3 l0_3.length l0_3) (hc0_3 : l0_3.length ≤ c0_3) (hr1_0 : Kd.C (Kd.int .i64) w A1_0 l1_0.length l1_0) (hc1_0 : l1_0.length ≤ c1_0) (h : pdu_AnswerBytes.f k a0_0 a0_1 a0_2 l0_3 a0_4 a0_5 a0_6 l1_0 a1_1 = some (r1, r2)) :
    Calls Try.prog 36 #[.agg #[.int .i64 a0_0, .int .i64 a0_1, .int .i64 a0_2, .slice A0_3 l0_3.length c0_3, .int .i64 a0_4, .int .i64 a0_5, .int .i64 a0_6], .agg #[.slice A1_0 l1_0.length c1_0, .int .i64 a1_1]] w fun e w' => ∃ v0_ : Value, e = .returned (.tuple #[v0_, .int .i64 r2]) ∧ Kd.R (Kd.int .u8) 5 w' w.heap.size (fun _ => True) v0_ r1 ∧ Below w.heap.size w w' := by
  have hu24 := Try.underlying24
  have hu30 := Try.underlying30
  have HR0_3 := Aside0.mk hr0_3
  have HC0_3 := Aside0.mk hc0_3
  clear hr0_3 hc0_3
  have HR1_0 := Aside0.mk hr1_0
  have HC1_0 := Aside0.mk hc1_0
  clear hr1_0 hc1_0
  have HB := Aside0.mk (Below.refl w.heap.size w)
  have H : ((pdu_Check.f k a0_0 a0_1 a0_2 l0_3 a0_4 a0_5 a0_6).bind fun t220 => (if t220 = 0 then ((pdu_answer.f k a0_0 a0_1 a0_2 l0_3 a0_4 a0_5 a0_6 l1_0 a1_1).bind fun t221 => (pdu_AnswerBytes.j0 k (!t221) a0_0 a0_1 a0_2 l0_3 a0_4 a0_5 a0_6 l1_0 a1_1)) else (pdu_AnswerBytes.j0 k true a0_0 a0_1 a0_2 l0_3 a0_4 a0_5 a0_6 l1_0 a1_1))) = some (r1, r2) := h
  clear h
  have HC3 := Aside0.mk H
  clear H
  go_enter Try.func36, Try.ntmps36
  go_upto_region 1 with (first | ((with_reducible refine gate_dst (N := 2) rfl ?_); refine box_event ?hg (N := 2) ?hd (cs := #[.int .i64 a0_0, .int .i64 a0_1, .int .i64 a0_2, .slice A0_3 l0_3.length c0_3, .int .i64 a0_4, .int .i64 a0_5, .int .i64 a0_6]) (t := 24) ?hr ?_; (case hd => rfl); (case hg => rfl); (case hr => first | (go_simp; done) | (go_simp; rfl)); intro gb218 hg w4 hbox hb; have n0_ := Aside0.mk (below_step (bl0_ HB) hb); have n1_ := Aside0.mk (hbox); have n2_ := Aside0.mk ((by rw [hg]; exact (below_size (bl0_ HB)) : w.heap.size ≤ gb218)); have n3_ := Aside0.mk ((by rw [hg]; exact (below_size (bl0_ HB)) : w.heap.size ≤ gb218)); clear HB; have HB := n0_; have BK218 := n1_; have GW218 := n2_; have GE218 := n3_; clear n0_ n1_ n2_ n3_; clear hb hbox hg) | ((with_reducible refine gate_dst (N := 3) rfl ?_); refine box_event ?hg (N := 3) ?hd (cs := #[.slice A1_0 l1_0.length c1_0, .int .i64 a1_1]) (t := 30) ?hr ?_; (case hd => rfl); (case hg => rfl); (case hr => first | (go_simp; done) | (go_simp; rfl)); intro gb219 hg w5 hbox hb; have n0_ := Aside0.mk (blk_below (g := gb218) (o := .cells #[.int .i64 a0_0, .int .i64 a0_1, .int .i64 a0_2, .slice A0_3 l0_3.length c0_3, .int .i64 a0_4, .int .i64 a0_5, .int .i64 a0_6] 24 (0, 0)) (bk_ BK218) hb); have n1_ := Aside0.mk (below_step (bl1_ HB GE218) hb); have n2_ := Aside0.mk (hbox); have n3_ := Aside0.mk ((by rw [hg]; exact (below_size (bl1_ HB GE218)) : w.heap.size ≤ gb219)); have n4_ := Aside0.mk ((by rw [hg]; exact (below_size (bl1_ HB GE218)) : w.heap.size ≤ gb219)); have n5_ := Aside0.mk ((by rw [hg]; exact Nat.ne_of_lt (blk_lt (g := gb218) (o := .cells #[.int .i64 a0_0, .int .i64 a0_1, .int .i64 a0_2, .slice A0_3 l0_3.length c0_3, .int .i64 a0_4, .int .i64 a0_5, .int .i64 a0_6] 24 (0, 0)) (bk_ BK218)) : gb218 ≠ gb219)); have n6_ := Aside0.mk ((by rw [hg]; exact Nat.ne_of_gt (blk_lt (g := gb218) (o := .cells #[.int .i64 a0_0, .int .i64 a0_1, .int .i64 a0_2, .slice A0_3 l0_3.length c0_3, .int .i64 a0_4, .int .i64 a0_5, .int .i64 a0_6] 24 (0, 0)) (bk_ BK218)) : gb219 ≠ gb218)); clear BK218; clear HB; have BK218 := n0_; have HB := n1_; have BK219 := n2_; have GW219 := n3_; have GE219 := n4_; have NB218_219 := n5_; have NB219_218 := n6_; clear n0_ n1_ n2_ n3_ n4_ n5_ n6_; clear hb hbox hg))
  (try simp only [Act.put, List.setIfInBounds_toArray, List.set_cons_zero, List.set_cons_succ])
  go_cut [15] (fun v15 wc => ∃ (kq : Nat) (x15_2 : Bool), v15 = .bool x15_2 ∧ Aside0 (pdu_AnswerBytes.j0 kq x15_2 a0_0 a0_1 a0_2 l0_3 a0_4 a0_5 a0_6 l1_0 a1_1 = some (r1, r2)) ∧ Aside0 (kq ≤ k) ∧ Aside0 (wc.heap[gb218]? = some (.cells #[.int .i64 a0_0, .int .i64 a0_1, .int .i64 a0_2, (.slice A0_3 l0_3.length c0_3), .int .i64 a0_4, .int .i64 a0_5, .int .i64 a0_6] 24 (0, 0))) ∧ Aside0 (wc.heap[gb219]? = some (.cells #[(.slice A1_0 l1_0.length c1_0), .int .i64 a1_1] 30 (0, 0))) ∧ Aside0 (Below w.heap.size w wc))
  case first =>
    have H := HC3.out
    clear HC3
    replace H := Option.bind_eq_some_iff.mp H
    obtain ⟨t220, A60, H⟩ := H
    replace H : (if t220 = 0 then ((pdu_answer.f k a0_0 a0_1 a0_2 l0_3 a0_4 a0_5 a0_6 l1_0 a1_1).bind fun t221 => (pdu_AnswerBytes.j0 k (!t221) a0_0 a0_1 a0_2 l0_3 a0_4 a0_5 a0_6 l1_0 a1_1)) else (pdu_AnswerBytes.j0 k true a0_0 a0_1 a0_2 l0_3 a0_4 a0_5 a0_6 l1_0 a1_1)) = some (r1, r2) := H
    have A6 := Aside0.mk A60
    clear A60
    by_cases c7 : t220 = 0
    · rw [if_pos c7] at H
      have c7b0 : (t220 == 0) = true := beq_iff_eq.mpr c7
      have c7b1 : (t220 != 0) = false := bne_eq_false_iff_eq.mpr c7
      clear c7
      (first | rw [c7b0] | (simp only [i64_w, i32_w]; rw [c7b0]) | skip)
      replace H := Option.bind_eq_some_iff.mp H
      obtain ⟨t221, A80, H⟩ := H
      replace H : (pdu_AnswerBytes.j0 k (!t221) a0_0 a0_1 a0_2 l0_3 a0_4 a0_5 a0_6 l1_0 a1_1) = some (r1, r2) := H
      have A8 := Aside0.mk A80
      clear A80
      have H' := Aside0.mk H
      clear H
      have hnb9 := NB218_219.out
      have hnc9 := NB219_218.out
      have hcz10_0 : w5.cell? ⟨gb218, 0, none⟩ = some (.int .i64 a0_0) := (blk_cell BK218.out 0).trans rfl
      have hcz10_1 : w5.cell? ⟨gb218, 1, none⟩ = some (.int .i64 a0_1) := (blk_cell BK218.out 1).trans rfl
      have hcz10_2 : w5.cell? ⟨gb218, 2, none⟩ = some (.int .i64 a0_2) := (blk_cell BK218.out 2).trans rfl
      have hcz10_3 : w5.cell? ⟨gb218, 3, none⟩ = some (.slice A0_3 l0_3.length c0_3) := (blk_cell BK218.out 3).trans rfl
      have hcz10_4 : w5.cell? ⟨gb218, 4, none⟩ = some (.int .i64 a0_4) := (blk_cell BK218.out 4).trans rfl
      have hcz10_5 : w5.cell? ⟨gb218, 5, none⟩ = some (.int .i64 a0_5) := (blk_cell BK218.out 5).trans rfl
      have hcz10_6 : w5.cell? ⟨gb218, 6, none⟩ = some (.int .i64 a0_6) := (blk_cell BK218.out 6).trans rfl
      have hfz10_0 := blk_frozen BK218.out 0
      have hfz10_1 := blk_frozen BK218.out 1
      have hfz10_2 := blk_frozen BK218.out 2
      have hfz10_3 := blk_frozen BK218.out 3
      have hfz10_4 := blk_frozen BK218.out 4
      have hfz10_5 := blk_frozen BK218.out 5
      have hfz10_6 := blk_frozen BK218.out 6
      go_wp2_with (first | ((with_reducible refine gate_callee (f := 29) rfl ?_); refine goesL_ (some 8) rfl rfl Try.func29 (by kernel_rfl) rfl #[.agg #[.int .i64 a0_0, .int .i64 a0_1, .int .i64 a0_2, .slice A0_3 l0_3.length c0_3, .int .i64 a0_4, .int .i64 a0_5, .int .i64 a0_6]] rfl ar_ ?_; (with_reducible refine (pdu_Check.calls k a0_0 a0_1 a0_2 _ _ l0_3 a0_4 a0_5 a0_6 t220 _ ?side1 ?side2 A6.out).mono ?_); (case side1 => repeat (first | exact (Kd.C_below HR0_3.out HB.out) | (with_reducible refine Kd.C_alloc ?_ _) | (with_reducible refine Kd.C_drewN ?_ _) | (with_reducible refine Kd.C_drew ?_))); (case side2 => exact HC0_3.out); rintro e w11 ⟨rfl, hb⟩; refine ⟨_, rfl, ?_⟩; have n0_ := Aside0.mk (blk_below (g := gb218) (o := .cells #[.int .i64 a0_0, .int .i64 a0_1, .int .i64 a0_2, .slice A0_3 l0_3.length c0_3, .int .i64 a0_4, .int .i64 a0_5, .int .i64 a0_6] 24 (0, 0)) (bk_ BK218) hb); have n1_ := Aside0.mk (blk_below (g := gb219) (o := .cells #[.slice A1_0 l1_0.length c1_0, .int .i64 a1_1] 30 (0, 0)) (bk_ BK219) hb); have n2_ := Aside0.mk (below_step (bl2_ HB GE218 GE219) hb); clear BK218; clear BK219; clear HB; have BK218 := n0_; have BK219 := n1_; have HB := n2_; clear n0_ n1_ n2_; (try clear hb); (try clear hb2); (try clear hk); (try clear hi); have hcz12_0 : w11.cell? ⟨gb218, 0, none⟩ = some (.int .i64 a0_0) := (blk_cell BK218.out 0).trans rfl; have hcz12_1 : w11.cell? ⟨gb218, 1, none⟩ = some (.int .i64 a0_1) := (blk_cell BK218.out 1).trans rfl; have hcz12_2 : w11.cell? ⟨gb218, 2, none⟩ = some (.int .i64 a0_2) := (blk_cell BK218.out 2).trans rfl; have hcz12_3 : w11.cell? ⟨gb218, 3, none⟩ = some (.slice A0_3 l0_3.length c0_3) := (blk_cell BK218.out 3).trans rfl; have hcz12_4 : w11.cell? ⟨gb218, 4, none⟩ = some (.int .i64 a0_4) := (blk_cell BK218.out 4).trans rfl; have hcz12_5 : w11.cell? ⟨gb218, 5, none⟩ = some (.int .i64 a0_5) := (blk_cell BK218.out 5).trans rfl; have hcz12_6 : w11.cell? ⟨gb218, 6, none⟩ = some (.int .i64 a0_6) := (blk_cell BK218.out 6).trans rfl; have hfz12_0 := blk_frozen BK218.out 0; have hfz12_1 := blk_frozen BK218.out 1; have hfz12_2 := blk_frozen BK218.out 2; have hfz12_3 := blk_frozen BK218.out 3; have hfz12_4 := blk_frozen BK218.out 4; have hfz12_5 := blk_frozen BK218.out 5; have hfz12_6 := blk_frozen BK218.out 6; have hcz13_0 : w11.cell? ⟨gb219, 0, none⟩ = some (.slice A1_0 l1_0.length c1_0) := (blk_cell BK219.out 0).trans rfl; have hcz13_1 : w11.cell? ⟨gb219, 1, none⟩ = some (.int .i64 a1_1) := (blk_cell BK219.out 1).trans rfl; have hfz13_0 := blk_frozen BK219.out 0; have hfz13_1 := blk_frozen BK219.out 1) | (go_at_call 66; (with_reducible refine (pdu_answer.calls k a0_0 a0_1 a0_2 _ _ l0_3 a0_4 a0_5 a0_6 _ _ l1_0 a1_1 t221 _ ?side1 ?side2 ?side3 ?side4 A8.out).mono ?_); (case side1 => repeat (first | exact (Kd.C_below HR0_3.out HB.out) | (with_reducible refine Kd.C_alloc ?_ _) | (with_reducible refine Kd.C_drewN ?_ _) | (with_reducible refine Kd.C_drew ?_))); (case side2 => exact HC0_3.out); (case side3 => repeat (first | exact (Kd.C_below HR1_0.out HB.out) | (with_reducible refine Kd.C_alloc ?_ _) | (with_reducible refine Kd.C_drewN ?_ _) | (with_reducible refine Kd.C_drew ?_))); (case side4 => exact HC1_0.out); rintro e w14 ⟨rfl, hb⟩; have n0_ := Aside0.mk (blk_below (g := gb218) (o := .cells #[.int .i64 a0_0, .int .i64 a0_1, .int .i64 a0_2, .slice A0_3 l0_3.length c0_3, .int .i64 a0_4, .int .i64 a0_5, .int .i64 a0_6] 24 (0, 0)) (bk_ BK218) hb); have n1_ := Aside0.mk (blk_below (g := gb219) (o := .cells #[.slice A1_0 l1_0.length c1_0, .int .i64 a1_1] 30 (0, 0)) (bk_ BK219) hb); have n2_ := Aside0.mk (below_step (bl2_ HB GE218 GE219) hb); clear BK218; clear BK219; clear HB; have BK218 := n0_; have BK219 := n1_; have HB := n2_; clear n0_ n1_ n2_; (try clear hb); (try clear hb2); (try clear hk); (try clear hi)))
      go_meet
      case rel => exact ⟨_, (!t221), (by first | rfl | (simp; done) | (simp [*]; done)), H', ⟨by first | omega | exact Nat.le_refl _⟩, ⟨bk_ BK218⟩, ⟨bk_ BK219⟩, ⟨bl2_ HB GE218 GE219⟩⟩
    · rw [if_neg c7] at H
      have c7b0 : (t220 == 0) = false := beq_eq_false_iff_ne.mpr c7
      have c7b1 : (t220 != 0) = true := bne_iff_ne.mpr c7
      (first | rw [c7b0] | (simp only [i64_w, i32_w]; rw [c7b0]) | skip)
      have H' := Aside0.mk H
      clear H
      have hnb15 := NB218_219.out
      have hnc15 := NB219_218.out
      have hcz16_0 : w5.cell? ⟨gb218, 0, none⟩ = some (.int .i64 a0_0) := (blk_cell BK218.out 0).trans rfl
      have hcz16_1 : w5.cell? ⟨gb218, 1, none⟩ = some (.int .i64 a0_1) := (blk_cell BK218.out 1).trans rfl
      have hcz16_2 : w5.cell? ⟨gb218, 2, none⟩ = some (.int .i64 a0_2) := (blk_cell BK218.out 2).trans rfl
      have hcz16_3 : w5.cell? ⟨gb218, 3, none⟩ = some (.slice A0_3 l0_3.length c0_3) := (blk_cell BK218.out 3).trans rfl
      have hcz16_4 : w5.cell? ⟨gb218, 4, none⟩ = some (.int .i64 a0_4) := (blk_cell BK218.out 4).trans rfl
      have hcz16_5 : w5.cell? ⟨gb218, 5, none⟩ = some (.int .i64 a0_5) := (blk_cell BK218.out 5).trans rfl
      have hcz16_6 : w5.cell? ⟨gb218, 6, none⟩ = some (.int .i64 a0_6) := (blk_cell BK218.out 6).trans rfl
      have hfz16_0 := blk_frozen BK218.out 0
      have hfz16_1 := blk_frozen BK218.out 1
      have hfz16_2 := blk_frozen BK218.out 2
      have hfz16_3 := blk_frozen BK218.out 3
      have hfz16_4 := blk_frozen BK218.out 4
      have hfz16_5 := blk_frozen BK218.out 5
      have hfz16_6 := blk_frozen BK218.out 6
      go_wp2_with (first | ((with_reducible refine gate_callee (f := 29) rfl ?_); refine goesL_ (some 8) rfl rfl Try.func29 (by kernel_rfl) rfl #[.agg #[.int .i64 a0_0, .int .i64 a0_1, .int .i64 a0_2, .slice A0_3 l0_3.length c0_3, .int .i64 a0_4, .int .i64 a0_5, .int .i64 a0_6]] rfl ar_ ?_; (with_reducible refine (pdu_Check.calls k a0_0 a0_1 a0_2 _ _ l0_3 a0_4 a0_5 a0_6 t220 _ ?side1 ?side2 A6.out).mono ?_); (case side1 => repeat (first | exact (Kd.C_below HR0_3.out HB.out) | (with_reducible refine Kd.C_alloc ?_ _) | (with_reducible refine Kd.C_drewN ?_ _) | (with_reducible refine Kd.C_drew ?_))); (case side2 => exact HC0_3.out); rintro e w17 ⟨rfl, hb⟩; refine ⟨_, rfl, ?_⟩; have n0_ := Aside0.mk (blk_below (g := gb218) (o := .cells #[.int .i64 a0_0, .int .i64 a0_1, .int .i64 a0_2, .slice A0_3 l0_3.length c0_3, .int .i64 a0_4, .int .i64 a0_5, .int .i64 a0_6] 24 (0, 0)) (bk_ BK218) hb); have n1_ := Aside0.mk (blk_below (g := gb219) (o := .cells #[.slice A1_0 l1_0.length c1_0, .int .i64 a1_1] 30 (0, 0)) (bk_ BK219) hb); have n2_ := Aside0.mk (below_step (bl2_ HB GE218 GE219) hb); clear BK218; clear BK219; clear HB; have BK218 := n0_; have BK219 := n1_; have HB := n2_; clear n0_ n1_ n2_; (try clear hb); (try clear hb2); (try clear hk); (try clear hi)))
      go_meet
      case rel => exact ⟨_, (true), (by first | rfl | (simp; done) | (simp [*]; done)), H', ⟨by first | omega | exact Nat.le_refl _⟩, ⟨bk_ BK218⟩, ⟨bk_ BK219⟩, ⟨bl2_ HB GE218 GE219⟩⟩
  case rest =>
    clear HC3
    try clear c1
    try clear c2
    try clear p2
    try clear c3
    try clear c7
    try clear c7b0
    try clear c7b1
    try clear c9
    try clear c15
    try clear hcz10_0
    try clear hcz10_1
    try clear hcz10_2
    try clear hcz10_3
    try clear hcz10_4
    try clear hcz10_5
    try clear hcz10_6
    try clear hcz12_0
    try clear hcz12_1
    try clear hcz12_2
    try clear hcz12_3
    try clear hcz12_4
    try clear hcz12_5
    try clear hcz12_6
    try clear hcz13_0
    try clear hcz13_1
    try clear hcz16_0
    try clear hcz16_1
    try clear hcz16_2
    try clear hcz16_3
    try clear hcz16_4
    try clear hcz16_5
    try clear hcz16_6
    try clear hfz10_0
    try clear hfz10_1
    try clear hfz10_2
    try clear hfz10_3
    try clear hfz10_4
    try clear hfz10_5
    try clear hfz10_6
    try clear hfz12_0
    try clear hfz12_1
    try clear hfz12_2
    try clear hfz12_3
    try clear hfz12_4
    try clear hfz12_5
    try clear hfz12_6
    try clear hfz13_0
    try clear hfz13_1
    try clear hfz16_0
    try clear hfz16_1
    try clear hfz16_2
    try clear hfz16_3
    try clear hfz16_4
    try clear hfz16_5
    try clear hfz16_6
    obtain ⟨kq, x15_2, rfl, HA, HJ2, BK218, BK219, HB⟩ := hcut
    cases kq with
    | zero => exact absurd HA.out (by simp [pdu_AnswerBytes.j0])
    | succ kj2 =>
      have H := HA.out
      clear HA
      simp only [pdu_AnswerBytes.j0] at H
      by_cases c18 : x15_2 = true
      · subst c18
        have H1 : (some (([] : List Int), 1)) = some (r1, r2) := by rw [if_pos rfl] at H; exact H
        clear H
        have H := H1
        clear H1
        simp only [Option.some.injEq, Prod.mk.injEq] at H
        obtain ⟨rfl, rfl⟩ := H
        go_wp2
        go_ret2
        exact ⟨_, by first | rfl | (simp [errW_none, errW_some] <;> rfl) | (simp [*, errW_none, errW_some] <;> rfl), by first | exact Kd.R_nil _ _ _ _ _ | exact Kd.N_nil _ _ _ _ _ | exact Kd.V_nil _ _ _ _ _ | exact Kd.Q_nil _ _ _ _ _ | exact Kd.S_nil _ _ _ _ _, bl2_ HB GE218 GE219⟩
      · replace c18 := Bool.eq_false_iff.mpr c18
        subst c18
        have H1 : (if a1_1 = 0 then ((some (([(a0_0) % 256] : List Int) : List Int)).bind fun y225 => (if a0_0 = 1 then (pdu_AnswerBytes.j1 kj2 y225 a0_0 (a0_0 == 1) a0_0 a0_1 a0_2 l0_3 a0_4 a0_5 a0_6 l1_0 a1_1) else (pdu_AnswerBytes.j1 kj2 y225 a0_0 (a0_0 == 2) a0_0 a0_1 a0_2 l0_3 a0_4 a0_5 a0_6 l1_0 a1_1))) else (some ((([Go.bits .or .u8 ((a0_0) % 256) 128, (a1_1) % 256] : List Int)), 0))) = some (r1, r2) := by rw [if_neg (show ¬ (false = true) by decide)] at H; exact H
        clear H
        have H := H1
        clear H1
        by_cases c19 : a1_1 = 0
        · rw [if_pos c19] at H
          have c19b0 : (a1_1 == 0) = true := beq_iff_eq.mpr c19
          have c19b1 : (a1_1 != 0) = false := bne_eq_false_iff_eq.mpr c19
          clear c19
          obtain ⟨y225, hy225⟩ : ∃ y_ : List Int, y_ = (([(a0_0) % 256] : List Int)) := ⟨_, rfl⟩
          replace H : (if a0_0 = 1 then (pdu_AnswerBytes.j1 kj2 y225 a0_0 (a0_0 == 1) a0_0 a0_1 a0_2 l0_3 a0_4 a0_5 a0_6 l1_0 a1_1) else (pdu_AnswerBytes.j1 kj2 y225 a0_0 (a0_0 == 2) a0_0 a0_1 a0_2 l0_3 a0_4 a0_5 a0_6 l1_0 a1_1)) = some (r1, r2) := by first | (rw [hy225]; with_reducible exact H) | (have H2_ := (Option.bind_some _ _).symm.trans H; rw [hy225]; with_reducible exact H2_) | (have H2_ := (Option.bind_some _ _).symm.trans H; with_reducible exact H2_) | with_reducible exact H | (rw [hy225]; exact H) | exact H
          have Ny225 := Aside0.mk hy225
          clear hy225
          have HC20 := Aside0.mk H
          clear H
          have hnb21 := NB219_218.out
          have hnc21 := NB218_219.out
          have hcz22_0 : wc.cell? ⟨gb219, 0, none⟩ = some (.slice A1_0 l1_0.length c1_0) := (blk_cell BK219.out 0).trans rfl
          have hcz22_1 : wc.cell? ⟨gb219, 1, none⟩ = some (.int .i64 a1_1) := (blk_cell BK219.out 1).trans rfl
          have hfz22_0 := blk_frozen BK219.out 0
          have hfz22_1 := blk_frozen BK219.out 1
          have hcz23_0 : wc.cell? ⟨gb218, 0, none⟩ = some (.int .i64 a0_0) := (blk_cell BK218.out 0).trans rfl
          have hcz23_1 : wc.cell? ⟨gb218, 1, none⟩ = some (.int .i64 a0_1) := (blk_cell BK218.out 1).trans rfl
          have hcz23_2 : wc.cell? ⟨gb218, 2, none⟩ = some (.int .i64 a0_2) := (blk_cell BK218.out 2).trans rfl
          have hcz23_3 : wc.cell? ⟨gb218, 3, none⟩ = some (.slice A0_3 l0_3.length c0_3) := (blk_cell BK218.out 3).trans rfl
          have hcz23_4 : wc.cell? ⟨gb218, 4, none⟩ = some (.int .i64 a0_4) := (blk_cell BK218.out 4).trans rfl
          have hcz23_5 : wc.cell? ⟨gb218, 5, none⟩ = some (.int .i64 a0_5) := (blk_cell BK218.out 5).trans rfl
          have hcz23_6 : wc.cell? ⟨gb218, 6, none⟩ = some (.int .i64 a0_6) := (blk_cell BK218.out 6).trans rfl
          have hfz23_0 := blk_frozen BK218.out 0
          have hfz23_1 := blk_frozen BK218.out 1
          have hfz23_2 := blk_frozen BK218.out 2
          have hfz23_3 := blk_frozen BK218.out 3
          have hfz23_4 := blk_frozen BK218.out 4
          have hfz23_5 := blk_frozen BK218.out 5
          have hfz23_6 := blk_frozen BK218.out 6
          go_upto_if 33 with (first | ((with_reducible refine gate_dst (N := 30) rfl ?_); refine Kd.R_lit (Kd.int .u8) _ 5 ?hg (N := 30) ?hd (xs := ([(a0_0) % 256] : List Int)) (inner := [.int .u8 ((a0_0) % 256)]) (ok := fun _ => True) (okp := fun _ => True) ?hr ?hp (fun _ hk => hk) trivial (Below.refl _ _) (Nat.le_refl _) (by simp) ?_; (case hd => rfl); (case hg => rfl); (case hr => first | (go_simp; done) | (go_simp; rfl)); (case hp => exact (Reps.one (show Kd.M (Kd.int .u8) _ _ _ ((a0_0) % 256) [.int .u8 ((a0_0) % 256)] from rfl) (Reps.none _ _))); intro v226 w24 ho25 hb hg_ hnew_; clear hg_ hnew_; (first | rw [← Ny225.out] at ho25 | (simp only [Int.reduceToNat] at ho25; rw [← Ny225.out] at ho25)); have n0_ := Aside0.mk (Kd.R_lower ho25 (below_size (bl2_ HB GE218 GE219))); have n1_ := Aside0.mk (blk_below (g := gb218) (o := .cells #[.int .i64 a0_0, .int .i64 a0_1, .int .i64 a0_2, .slice A0_3 l0_3.length c0_3, .int .i64 a0_4, .int .i64 a0_5, .int .i64 a0_6] 24 (0, 0)) (bk_ BK218) hb); have n2_ := Aside0.mk (blk_below (g := gb219) (o := .cells #[.slice A1_0 l1_0.length c1_0, .int .i64 a1_1] 30 (0, 0)) (bk_ BK219) hb); have n3_ := Aside0.mk (below_step (bl2_ HB GE218 GE219) hb); clear BK218; clear BK219; clear HB; have HO227 := n0_; have BK218 := n1_; have BK219 := n2_; have HB := n3_; clear n0_ n1_ n2_ n3_; clear hb ho25; have hcz26_0 : w24.cell? ⟨gb218, 0, none⟩ = some (.int .i64 a0_0) := (blk_cell BK218.out 0).trans rfl; have hcz26_1 : w24.cell? ⟨gb218, 1, none⟩ = some (.int .i64 a0_1) := (blk_cell BK218.out 1).trans rfl; have hcz26_2 : w24.cell? ⟨gb218, 2, none⟩ = some (.int .i64 a0_2) := (blk_cell BK218.out 2).trans rfl; have hcz26_3 : w24.cell? ⟨gb218, 3, none⟩ = some (.slice A0_3 l0_3.length c0_3) := (blk_cell BK218.out 3).trans rfl; have hcz26_4 : w24.cell? ⟨gb218, 4, none⟩ = some (.int .i64 a0_4) := (blk_cell BK218.out 4).trans rfl; have hcz26_5 : w24.cell? ⟨gb218, 5, none⟩ = some (.int .i64 a0_5) := (blk_cell BK218.out 5).trans rfl; have hcz26_6 : w24.cell? ⟨gb218, 6, none⟩ = some (.int .i64 a0_6) := (blk_cell BK218.out 6).trans rfl; have hfz26_0 := blk_frozen BK218.out 0; have hfz26_1 := blk_frozen BK218.out 1; have hfz26_2 := blk_frozen BK218.out 2; have hfz26_3 := blk_frozen BK218.out 3; have hfz26_4 := blk_frozen BK218.out 4; have hfz26_5 := blk_frozen BK218.out 5; have hfz26_6 := blk_frozen BK218.out 6))
          (try simp only [Act.put, List.setIfInBounds_toArray, List.set_cons_zero, List.set_cons_succ])
          go_cut [33] (fun v33 wc => ∃ (kq : Nat) (x33_19 : Bool), v33 = .bool x33_19 ∧ Aside0 (pdu_AnswerBytes.j1 kq y225 a0_0 x33_19 a0_0 a0_1 a0_2 l0_3 a0_4 a0_5 a0_6 l1_0 a1_1 = some (r1, r2)) ∧ Aside0 (kq ≤ kj2) ∧ Aside0 (Kd.R (Kd.int .u8) 5 wc w.heap.size (fun _ => True) v226 y225) ∧ Aside0 (wc.heap[gb218]? = some (.cells #[.int .i64 a0_0, .int .i64 a0_1, .int .i64 a0_2, (.slice A0_3 l0_3.length c0_3), .int .i64 a0_4, .int .i64 a0_5, .int .i64 a0_6] 24 (0, 0))) ∧ Aside0 (wc.heap[gb219]? = some (.cells #[(.slice A1_0 l1_0.length c1_0), .int .i64 a1_1] 30 (0, 0))) ∧ Aside0 (Below w.heap.size w wc))
          case first =>
            have H := HC20.out
            clear HC20
            by_cases c27 : a0_0 = 1
            · rw [if_pos c27] at H
              have c27b0 : (a0_0 == 1) = true := beq_iff_eq.mpr c27
              have c27b1 : (a0_0 != 1) = false := bne_eq_false_iff_eq.mpr c27
              clear c27
              (first | rw [c27b0] | (simp only [i64_w, i32_w]; rw [c27b0]) | skip)
              have H' := Aside0.mk H
              clear H
              go_wp2
              go_meet
              case rel => exact ⟨_, ((a0_0 == 1)), (by first | rfl | (simp; done) | (simp [*]; done)), H', ⟨by have := HJ2.out; first | omega | exact Nat.le_refl _⟩, ⟨kr_ HO227⟩, ⟨bk_ BK218⟩, ⟨bk_ BK219⟩, ⟨bl2_ HB GE218 GE219⟩⟩
            · rw [if_neg c27] at H
              have c27b0 : (a0_0 == 1) = false := beq_eq_false_iff_ne.mpr c27
              have c27b1 : (a0_0 != 1) = true := bne_iff_ne.mpr c27
              (first | rw [c27b0] | (simp only [i64_w, i32_w]; rw [c27b0]) | skip)
              have H' := Aside0.mk H
              clear H
              go_wp2
              go_meet
              case rel => exact ⟨_, ((a0_0 == 2)), (by first | rfl | (simp; done) | (simp [*]; done)), H', ⟨by have := HJ2.out; first | omega | exact Nat.le_refl _⟩, ⟨kr_ HO227⟩, ⟨bk_ BK218⟩, ⟨bk_ BK219⟩, ⟨bl2_ HB GE218 GE219⟩⟩
          case rest =>
            clear HC20
            try clear c1
            try clear c2
            try clear p2
            try clear c3
            try clear c7
            try clear c7b0
            try clear c7b1
            try clear c9
            try clear c15
            try clear c18
            try clear c19
            try clear c19b0
            try clear c19b1
            try clear c21
            try clear c27
            try clear c27b0
            try clear c27b1
            try clear hcz10_0
            try clear hcz10_1
            try clear hcz10_2
            try clear hcz10_3
            try clear hcz10_4
            try clear hcz10_5
            try clear hcz10_6
            try clear hcz12_0
            try clear hcz12_1
            try clear hcz12_2
            try clear hcz12_3
            try clear hcz12_4
            try clear hcz12_5
            try clear hcz12_6
            try clear hcz13_0
            try clear hcz13_1
            try clear hcz16_0
            try clear hcz16_1
            try clear hcz16_2
            try clear hcz16_3
            try clear hcz16_4
            try clear hcz16_5
            try clear hcz16_6
            try clear hcz22_0
            try clear hcz22_1
            try clear hcz23_0
            try clear hcz23_1
            try clear hcz23_2
            try clear hcz23_3
            try clear hcz23_4
            try clear hcz23_5
            try clear hcz23_6
            try clear hcz26_0
            try clear hcz26_1
            try clear hcz26_2
            try clear hcz26_3
            try clear hcz26_4
            try clear hcz26_5
            try clear hcz26_6
            try clear hfz10_0
            try clear hfz10_1
            try clear hfz10_2
            try clear hfz10_3
            try clear hfz10_4
            try clear hfz10_5
            try clear hfz10_6
            try clear hfz12_0
            try clear hfz12_1
            try clear hfz12_2
            try clear hfz12_3
            try clear hfz12_4
            try clear hfz12_5
            try clear hfz12_6
            try clear hfz13_0
            try clear hfz13_1
            try clear hfz16_0
            try clear hfz16_1
            try clear hfz16_2
            try clear hfz16_3
            try clear hfz16_4
            try clear hfz16_5
            try clear hfz16_6
            try clear hfz22_0
            try clear hfz22_1
            try clear hfz23_0
            try clear hfz23_1
            try clear hfz23_2
            try clear hfz23_3
            try clear hfz23_4
            try clear hfz23_5
            try clear hfz23_6
            try clear hfz26_0
            try clear hfz26_1
            try clear hfz26_2
            try clear hfz26_3
            try clear hfz26_4
            try clear hfz26_5
            try clear hfz26_6
            try clear p2
            obtain ⟨kq, x33_19, rfl, HA, HJ19, HO_6, BK218, BK219, HB⟩ := hcut
            cases kq with
            | zero => exact absurd HA.out (by simp [pdu_AnswerBytes.j1])
            | succ kj19 =>
              have H := HA.out
              clear HA
              simp only [pdu_AnswerBytes.j1] at H
              by_cases c28 : x33_19 = true
              · subst c28
                have H1 : ((pdu_packed.f kj19 l1_0).bind fun t228 => ((pdu_counted.f y225 t228).bind fun t231 => (some (t231, 0)))) = some (r1, r2) := by rw [if_pos rfl] at H; exact H
                clear H
                have H := H1
                clear H1
                replace H := Option.bind_eq_some_iff.mp H
                obtain ⟨t228, A290, H⟩ := H
                replace H : ((pdu_counted.f y225 t228).bind fun t231 => (some (t231, 0))) = some (r1, r2) := H
                have A29 := Aside0.mk A290
                clear A290
                replace H := Option.bind_eq_some_iff.mp H
                obtain ⟨t231, A300, H⟩ := H
                replace H : (some (t231, 0)) = some (r1, r2) := H
                have A30 := Aside0.mk A300
                clear A300
                simp only [Option.some.injEq, Prod.mk.injEq] at H
                obtain ⟨rfl, rfl⟩ := H
                have hnb31 := NB219_218.out
                have hnc31 := NB218_219.out
                have hcz32_0 : wc.cell? ⟨gb219, 0, none⟩ = some (.slice A1_0 l1_0.length c1_0) := (blk_cell BK219.out 0).trans rfl
                have hcz32_1 : wc.cell? ⟨gb219, 1, none⟩ = some (.int .i64 a1_1) := (blk_cell BK219.out 1).trans rfl
                have hfz32_0 := blk_frozen BK219.out 0
                have hfz32_1 := blk_frozen BK219.out 1
                go_wp2_with (first | ((with_reducible refine gate_callee (f := 55) rfl ?_); refine goesL_ (some 39) rfl rfl Try.func55 (by kernel_rfl) rfl #[.slice A1_0 l1_0.length c1_0] rfl ar_ ?_; (with_reducible refine (pdu_packed.calls kj19 _ _ l1_0 t228 _ ?side1 ?side2 A29.out).mono ?_); (case side1 => repeat (first | exact (Kd.C_below HR1_0.out HB.out) | (with_reducible refine Kd.C_alloc ?_ _) | (with_reducible refine Kd.C_drewN ?_ _) | (with_reducible refine Kd.C_drew ?_))); (case side2 => exact HC1_0.out); rintro e w33 ⟨v229, rfl, ho0, hb⟩; refine ⟨_, rfl, ?_⟩; have n0_ := Aside0.mk (Kd.R_elder' (kr_ HO_6) (Kd.R_base ho0) hb); have n1_ := Aside0.mk (Kd.R_lower (Kd.R_new' ho0 (Kd.R_lt (kr_ HO_6))) (below_size (bl2_ HB GE218 GE219))); have n2_ := Aside0.mk (blk_below (g := gb218) (o := .cells #[.int .i64 a0_0, .int .i64 a0_1, .int .i64 a0_2, .slice A0_3 l0_3.length c0_3, .int .i64 a0_4, .int .i64 a0_5, .int .i64 a0_6] 24 (0, 0)) (bk_ BK218) hb); have n3_ := Aside0.mk (blk_below (g := gb219) (o := .cells #[.slice A1_0 l1_0.length c1_0, .int .i64 a1_1] 30 (0, 0)) (bk_ BK219) hb); have n4_ := Aside0.mk (below_step (bl2_ HB GE218 GE219) hb); clear HO_6; clear BK218; clear BK219; clear HB; have HO_6 := n0_; have HO230 := n1_; have BK218 := n2_; have BK219 := n3_; have HB := n4_; clear n0_ n1_ n2_ n3_ n4_; (try clear hb); (try clear hb2); (try clear hk); (try clear hi); (try clear ho0); obtain ⟨Ao34, co34, eo34⟩ := Kd.R_slice HO_6.out; subst eo34; obtain ⟨Ao35, co35, eo35⟩ := Kd.R_slice HO230.out; subst eo35) | ((with_reducible refine gate_callee (f := 54) rfl ?_); refine goesL_ (some 40) rfl rfl Try.func54 (by kernel_rfl) rfl #[.slice Ao34 y225.length co34, .slice Ao35 t228.length co35] rfl ar_ ?_; (with_reducible refine (pdu_counted.calls (fun k_ => some k_ = (.slice Ao34 y225.length co34 : Value).ownBlock) (.slice Ao34 y225.length co34) y225 _ _ t228 t231 w _ ?side1 ?side2 ?side3 ?side4 A30.out).mono ?_); (case side1 => repeat (first | (with_reducible first | exact HB.out | apply below_alloc | apply pw_below_drewN | apply below_drew1 | refine below_set ?_ GE218.out | refine below_set ?_ GE219.out) | exact HB.out)); (case side2 => exact Kd.R_tight rfl HO_6.out); (case side3 => exact Kd.C_kept_own (HO230.out) (fun k_ hk_ hs_ => (hk_.2) hs_)); (case side4 => exact (Kd.R_reads' HO230.out).2.1); rintro e w36 ⟨v232, rfl, ho0, hb, hkp⟩; refine ⟨_, rfl, ?_⟩; have n0_ := Aside0.mk (blk_kept (bk_ BK218) hkp (fun hs_ => (fun e_ => (Kd.R_ne HO_6.out BK218.out (by decide)) e_) hs_)); have n1_ := Aside0.mk (blk_kept (bk_ BK219) hkp (fun hs_ => (fun e_ => (Kd.R_ne HO_6.out BK219.out (by decide)) e_) hs_)); have n2_ := Aside0.mk (Kd.R_mono (ok' := fun k_ => some k_ ≠ (v232 : Value).ownBlock) (Kd.R_keptB (HO230.out) hkp (fun k_ hk_ hs_ => (hk_.2) hs_)) (fun k_ hk_ => fun e_ => Or.elim (ho0.1 k_ e_.symm) (fun hs_ => hk_.2.1 hs_) (fun hn_ => Nat.not_le.2 hk_.2.2 hn_))); have n3_ := Aside0.mk (Kd.R_mono (ok' := fun k_ => some k_ ≠ (.slice Ao35 t228.length co35 : Value).ownBlock) ho0 (fun k_ hk_ => Or.elim hk_ (fun hs_ => fun e_ => (((HO230.out).1 k_ e_.symm).2) hs_) (fun hn_ => (Kd.fresh' (Kd.R_lt (kr_ HO230)) k_ hn_)))); have n4_ := Aside0.mk (hb); clear BK218; clear BK219; clear HO230; clear HB; clear HO_6; have BK218 := n0_; have BK219 := n1_; have HO230 := n2_; have HO233 := n3_; have HB := n4_; clear n0_ n1_ n2_ n3_ n4_; (try clear hb); (try clear hkp); (try clear ho0)))
                go_ret2
                exact ⟨_, by first | rfl | (simp [errW_none, errW_some] <;> rfl) | (simp [*, errW_none, errW_some] <;> rfl), by (with_reducible repeat (first | apply Kd.R_alloc | apply Kd.R_drewN | apply Kd.R_drew)); exact Kd.R_mono HO233.out (fun _ hk => trivial), bl2_ HB GE218 GE219⟩
              · replace c28 := Bool.eq_false_iff.mpr c28
                subst c28
                have H1 : (if a0_0 = 3 then (pdu_AnswerBytes.j2 kj19 y225 a0_0 (a0_0 == 3) a0_0 a0_1 a0_2 l0_3 a0_4 a0_5 a0_6 l1_0 a1_1) else (if a0_0 = 4 then (pdu_AnswerBytes.j2 kj19 y225 a0_0 (a0_0 == 4) a0_0 a0_1 a0_2 l0_3 a0_4 a0_5 a0_6 l1_0 a1_1) else (pdu_AnswerBytes.j2 kj19 y225 a0_0 (a0_0 == 23) a0_0 a0_1 a0_2 l0_3 a0_4 a0_5 a0_6 l1_0 a1_1))) = some (r1, r2) := by rw [if_neg (show ¬ (false = true) by decide)] at H; exact H
                clear H
                have H := H1
                clear H1
                have HC37 := Aside0.mk H
                clear H
                go_upto_if 41 with (fail)
                go_cut [41] (fun v41 wc => ∃ (kq : Nat) (x41_36 : Bool), v41 = .bool x41_36 ∧ Aside0 (pdu_AnswerBytes.j2 kq y225 a0_0 x41_36 a0_0 a0_1 a0_2 l0_3 a0_4 a0_5 a0_6 l1_0 a1_1 = some (r1, r2)) ∧ Aside0 (kq ≤ kj19) ∧ Aside0 (Kd.R (Kd.int .u8) 5 wc w.heap.size (fun _ => True) v226 y225) ∧ Aside0 (wc.heap[gb218]? = some (.cells #[.int .i64 a0_0, .int .i64 a0_1, .int .i64 a0_2, (.slice A0_3 l0_3.length c0_3), .int .i64 a0_4, .int .i64 a0_5, .int .i64 a0_6] 24 (0, 0))) ∧ Aside0 (wc.heap[gb219]? = some (.cells #[(.slice A1_0 l1_0.length c1_0), .int .i64 a1_1] 30 (0, 0))) ∧ Aside0 (Below w.heap.size w wc))
                case first =>
                  have H := HC37.out
                  clear HC37
                  by_cases c38 : a0_0 = 3
                  · rw [if_pos c38] at H
                    have c38b0 : (a0_0 == 3) = true := beq_iff_eq.mpr c38
                    have c38b1 : (a0_0 != 3) = false := bne_eq_false_iff_eq.mpr c38
                    clear c38
                    (first | rw [c38b0] | (simp only [i64_w, i32_w]; rw [c38b0]) | skip)
                    have H' := Aside0.mk H
                    clear H
                    go_wp2
                    go_meet
                    case rel => exact ⟨_, ((a0_0 == 3)), (by first | rfl | (simp; done) | (simp [*]; done)), H', ⟨by have := HJ2.out; have := HJ19.out; first | omega | exact Nat.le_refl _⟩, ⟨kr_ HO_6⟩, ⟨bk_ BK218⟩, ⟨bk_ BK219⟩, ⟨bl2_ HB GE218 GE219⟩⟩
                  · rw [if_neg c38] at H
                    have c38b0 : (a0_0 == 3) = false := beq_eq_false_iff_ne.mpr c38
                    have c38b1 : (a0_0 != 3) = true := bne_iff_ne.mpr c38
                    (first | rw [c38b0] | (simp only [i64_w, i32_w]; rw [c38b0]) | skip)
                    by_cases c39 : a0_0 = 4
                    · rw [if_pos c39] at H
                      have c39b0 : (a0_0 == 4) = true := beq_iff_eq.mpr c39
                      have c39b1 : (a0_0 != 4) = false := bne_eq_false_iff_eq.mpr c39
                      clear c39
                      have H' := Aside0.mk H
                      clear H
                      go_wp2
                      go_meet
                      case rel => exact ⟨_, ((a0_0 == 4)), (by first | rfl | (simp; done) | (simp [*]; done)), H', ⟨by have := HJ2.out; have := HJ19.out; first | omega | exact Nat.le_refl _⟩, ⟨kr_ HO_6⟩, ⟨bk_ BK218⟩, ⟨bk_ BK219⟩, ⟨bl2_ HB GE218 GE219⟩⟩
                    · rw [if_neg c39] at H
                      have c39b0 : (a0_0 == 4) = false := beq_eq_false_iff_ne.mpr c39
                      have c39b1 : (a0_0 != 4) = true := bne_iff_ne.mpr c39
                      have H' := Aside0.mk H
                      clear H
                      go_wp2
                      go_meet
                      case rel => exact ⟨_, ((a0_0 == 23)), (by first | rfl | (simp; done) | (simp [*]; done)), H', ⟨by have := HJ2.out; have := HJ19.out; first | omega | exact Nat.le_refl _⟩, ⟨kr_ HO_6⟩, ⟨bk_ BK218⟩, ⟨bk_ BK219⟩, ⟨bl2_ HB GE218 GE219⟩⟩
                case rest =>
                  clear HC37
                  try clear c1
                  try clear c2
                  try clear p2
                  try clear c3
                  try clear c5
                  try clear c7
                  try clear c7b0
                  try clear c7b1
                  try clear c9
                  try clear c15
                  try clear c18
                  try clear c19
                  try clear c19b0
                  try clear c19b1
                  try clear c21
                  try clear c27
                  try clear c27b0
                  try clear c27b1
                  try clear c28
                  try clear c29
                  try clear c31
                  try clear c36
                  try clear c38
                  try clear c38b0
                  try clear c38b1
                  try clear c39
                  try clear c39b0
                  try clear c39b1
                  try clear hcz10_0
                  try clear hcz10_1
                  try clear hcz10_2
                  try clear hcz10_3
                  try clear hcz10_4
                  try clear hcz10_5
                  try clear hcz10_6
                  try clear hcz12_0
                  try clear hcz12_1
                  try clear hcz12_2
                  try clear hcz12_3
                  try clear hcz12_4
                  try clear hcz12_5
                  try clear hcz12_6
                  try clear hcz13_0
                  try clear hcz13_1
                  try clear hcz16_0
                  try clear hcz16_1
                  try clear hcz16_2
                  try clear hcz16_3
                  try clear hcz16_4
                  try clear hcz16_5
                  try clear hcz16_6
                  try clear hcz22_0
                  try clear hcz22_1
                  try clear hcz23_0
                  try clear hcz23_1
                  try clear hcz23_2
                  try clear hcz23_3
                  try clear hcz23_4
                  try clear hcz23_5
                  try clear hcz23_6
                  try clear hcz26_0
                  try clear hcz26_1
                  try clear hcz26_2
                  try clear hcz26_3
                  try clear hcz26_4
                  try clear hcz26_5
                  try clear hcz26_6
                  try clear hcz32_0
                  try clear hcz32_1
                  try clear hfz10_0
                  try clear hfz10_1
                  try clear hfz10_2
                  try clear hfz10_3
                  try clear hfz10_4
                  try clear hfz10_5
                  try clear hfz10_6
                  try clear hfz12_0
                  try clear hfz12_1
                  try clear hfz12_2
                  try clear hfz12_3
                  try clear hfz12_4
                  try clear hfz12_5
                  try clear hfz12_6
                  try clear hfz13_0
                  try clear hfz13_1
                  try clear hfz16_0
                  try clear hfz16_1
                  try clear hfz16_2
                  try clear hfz16_3
                  try clear hfz16_4
                  try clear hfz16_5
                  try clear hfz16_6
                  try clear hfz22_0
                  try clear hfz22_1
                  try clear hfz23_0
                  try clear hfz23_1
                  try clear hfz23_2
                  try clear hfz23_3
                  try clear hfz23_4
                  try clear hfz23_5
                  try clear hfz23_6
                  try clear hfz26_0
                  try clear hfz26_1
                  try clear hfz26_2
                  try clear hfz26_3
                  try clear hfz26_4
                  try clear hfz26_5
                  try clear hfz26_6
                  try clear hfz32_0
                  try clear hfz32_1
                  try clear p2
                  obtain ⟨kq, x41_36, rfl, HA, HJ36, HO_6, BK218, BK219, HB⟩ := hcut
                  cases kq with
                  | zero => exact absurd HA.out (by simp [pdu_AnswerBytes.j2])
                  | succ kj36 =>
                    have H := HA.out
                    clear HA
                    simp only [pdu_AnswerBytes.j2] at H
                    by_cases c40 : x41_36 = true
                    · subst c40
                      have H1 : ((pdu_lay.f ([] : List Int) l1_0).bind fun t234 => ((pdu_counted.f y225 t234).bind fun t237 => (some (t237, 0)))) = some (r1, r2) := by rw [if_pos rfl] at H; exact H
                      clear H
                      have H := H1
                      clear H1
                      replace H := Option.bind_eq_some_iff.mp H
                      obtain ⟨t234, A410, H⟩ := H
                      replace H : ((pdu_counted.f y225 t234).bind fun t237 => (some (t237, 0))) = some (r1, r2) := H
                      have A41 := Aside0.mk A410
                      clear A410
                      replace H := Option.bind_eq_some_iff.mp H
                      obtain ⟨t237, A420, H⟩ := H
                      replace H : (some (t237, 0)) = some (r1, r2) := H
                      have A42 := Aside0.mk A420
                      clear A420
                      simp only [Option.some.injEq, Prod.mk.injEq] at H
                      obtain ⟨rfl, rfl⟩ := H
                      have hnb43 := NB219_218.out
                      have hnc43 := NB218_219.out
                      have hcz44_0 : wc.cell? ⟨gb219, 0, none⟩ = some (.slice A1_0 l1_0.length c1_0) := (blk_cell BK219.out 0).trans rfl
                      have hcz44_1 : wc.cell? ⟨gb219, 1, none⟩ = some (.int .i64 a1_1) := (blk_cell BK219.out 1).trans rfl
                      have hfz44_0 := blk_frozen BK219.out 0
                      have hfz44_1 := blk_frozen BK219.out 1
                      go_wp2_with (first | ((with_reducible refine gate_callee (f := 53) rfl ?_); refine goesL_ (some 48) rfl rfl Try.func53 (by kernel_rfl) rfl #[.slice none 0 0, .slice A1_0 l1_0.length c1_0] rfl ar_ ?_; (refine (pdu_lay.calls _ _ ([] : List Int) _ _ l1_0 t234 _ ?side1 ?side2 ?side3 ?side4 A41.out).mono ?_); (case side1 => exact Kd.C_nil _ _); (case side2 => exact Nat.le_refl _); (case side3 => repeat (first | exact (Kd.C_below HR1_0.out HB.out) | (with_reducible refine Kd.C_alloc ?_ _) | (with_reducible refine Kd.C_drewN ?_ _) | (with_reducible refine Kd.C_drew ?_))); (case side4 => exact HC1_0.out); rintro e w45 ⟨v235, rfl, ho0, hb⟩; refine ⟨_, rfl, ?_⟩; have n0_ := Aside0.mk (Kd.R_elder' (kr_ HO_6) (Kd.R_base ho0) hb); have n1_ := Aside0.mk (Kd.R_lower (Kd.R_new' ho0 (Kd.R_lt (kr_ HO_6))) (below_size (bl2_ HB GE218 GE219))); have n2_ := Aside0.mk (blk_below (g := gb218) (o := .cells #[.int .i64 a0_0, .int .i64 a0_1, .int .i64 a0_2, .slice A0_3 l0_3.length c0_3, .int .i64 a0_4, .int .i64 a0_5, .int .i64 a0_6] 24 (0, 0)) (bk_ BK218) hb); have n3_ := Aside0.mk (blk_below (g := gb219) (o := .cells #[.slice A1_0 l1_0.length c1_0, .int .i64 a1_1] 30 (0, 0)) (bk_ BK219) hb); have n4_ := Aside0.mk (below_step (bl2_ HB GE218 GE219) hb); clear HO_6; clear BK218; clear BK219; clear HB; have HO_6 := n0_; have HO236 := n1_; have BK218 := n2_; have BK219 := n3_; have HB := n4_; clear n0_ n1_ n2_ n3_ n4_; (try clear hb); (try clear hb2); (try clear hk); (try clear hi); (try clear ho0); obtain ⟨Ao46, co46, eo46⟩ := Kd.R_slice HO_6.out; subst eo46; obtain ⟨Ao47, co47, eo47⟩ := Kd.R_slice HO236.out; subst eo47) | ((with_reducible refine gate_callee (f := 54) rfl ?_); refine goesL_ (some 49) rfl rfl Try.func54 (by kernel_rfl) rfl #[.slice Ao46 y225.length co46, .slice Ao47 t234.length co47] rfl ar_ ?_; (with_reducible refine (pdu_counted.calls (fun k_ => some k_ = (.slice Ao46 y225.length co46 : Value).ownBlock) (.slice Ao46 y225.length co46) y225 _ _ t234 t237 w _ ?side1 ?side2 ?side3 ?side4 A42.out).mono ?_); (case side1 => repeat (first | (with_reducible first | exact HB.out | apply below_alloc | apply pw_below_drewN | apply below_drew1 | refine below_set ?_ GE218.out | refine below_set ?_ GE219.out) | exact HB.out)); (case side2 => exact Kd.R_tight rfl HO_6.out); (case side3 => exact Kd.C_kept_own (HO236.out) (fun k_ hk_ hs_ => (hk_.2) hs_)); (case side4 => exact (Kd.R_reads' HO236.out).2.1); rintro e w48 ⟨v238, rfl, ho0, hb, hkp⟩; refine ⟨_, rfl, ?_⟩; have n0_ := Aside0.mk (blk_kept (bk_ BK218) hkp (fun hs_ => (fun e_ => (Kd.R_ne HO_6.out BK218.out (by decide)) e_) hs_)); have n1_ := Aside0.mk (blk_kept (bk_ BK219) hkp (fun hs_ => (fun e_ => (Kd.R_ne HO_6.out BK219.out (by decide)) e_) hs_)); have n2_ := Aside0.mk (Kd.R_mono (ok' := fun k_ => some k_ ≠ (v238 : Value).ownBlock) (Kd.R_keptB (HO236.out) hkp (fun k_ hk_ hs_ => (hk_.2) hs_)) (fun k_ hk_ => fun e_ => Or.elim (ho0.1 k_ e_.symm) (fun hs_ => hk_.2.1 hs_) (fun hn_ => Nat.not_le.2 hk_.2.2 hn_))); have n3_ := Aside0.mk (Kd.R_mono (ok' := fun k_ => some k_ ≠ (.slice Ao47 t234.length co47 : Value).ownBlock) ho0 (fun k_ hk_ => Or.elim hk_ (fun hs_ => fun e_ => (((HO236.out).1 k_ e_.symm).2) hs_) (fun hn_ => (Kd.fresh' (Kd.R_lt (kr_ HO236)) k_ hn_)))); have n4_ := Aside0.mk (hb); clear BK218; clear BK219; clear HO236; clear HB; clear HO_6; have BK218 := n0_; have BK219 := n1_; have HO236 := n2_; have HO239 := n3_; have HB := n4_; clear n0_ n1_ n2_ n3_ n4_; (try clear hb); (try clear hkp); (try clear ho0)))
                      go_ret2
                      exact ⟨_, by first | rfl | (simp [errW_none, errW_some] <;> rfl) | (simp [*, errW_none, errW_some] <;> rfl), by (with_reducible repeat (first | apply Kd.R_alloc | apply Kd.R_drewN | apply Kd.R_drew)); exact Kd.R_mono HO239.out (fun _ hk => trivial), bl2_ HB GE218 GE219⟩
                    · replace c40 := Bool.eq_false_iff.mpr c40
                      subst c40
                      have H1 : (if a0_0 = 15 then (pdu_AnswerBytes.j3 kj36 y225 (a0_0 == 15) a0_0 a0_1 a0_2 l0_3 a0_4 a0_5 a0_6) else (pdu_AnswerBytes.j3 kj36 y225 (a0_0 == 16) a0_0 a0_1 a0_2 l0_3 a0_4 a0_5 a0_6)) = some (r1, r2) := by rw [if_neg (show ¬ (false = true) by decide)] at H; exact H
                      clear H
                      have H := H1
                      clear H1
                      have HC49 := Aside0.mk H
                      clear H
                      go_upto_if 50 with (fail)
                      go_cut [50] (fun v50 wc => ∃ (kq : Nat) (x50_48 : Bool), v50 = .bool x50_48 ∧ Aside0 (pdu_AnswerBytes.j3 kq y225 x50_48 a0_0 a0_1 a0_2 l0_3 a0_4 a0_5 a0_6 = some (r1, r2)) ∧ Aside0 (kq ≤ kj36) ∧ Aside0 (Kd.R (Kd.int .u8) 5 wc w.heap.size (fun _ => True) v226 y225) ∧ Aside0 (wc.heap[gb218]? = some (.cells #[.int .i64 a0_0, .int .i64 a0_1, .int .i64 a0_2, (.slice A0_3 l0_3.length c0_3), .int .i64 a0_4, .int .i64 a0_5, .int .i64 a0_6] 24 (0, 0))) ∧ Aside0 (wc.heap[gb219]? = some (.cells #[(.slice A1_0 l1_0.length c1_0), .int .i64 a1_1] 30 (0, 0))) ∧ Aside0 (Below w.heap.size w wc))
                      case first =>
                        have H := HC49.out
                        clear HC49
                        by_cases c50 : a0_0 = 15
                        · rw [if_pos c50] at H
                          have c50b0 : (a0_0 == 15) = true := beq_iff_eq.mpr c50
                          have c50b1 : (a0_0 != 15) = false := bne_eq_false_iff_eq.mpr c50
                          clear c50
                          (first | rw [c50b0] | (simp only [i64_w, i32_w]; rw [c50b0]) | skip)
                          have H' := Aside0.mk H
                          clear H
                          go_wp2
                          go_meet
                          case rel => exact ⟨_, ((a0_0 == 15)), (by first | rfl | (simp; done) | (simp [*]; done)), H', ⟨by have := HJ2.out; have := HJ19.out; have := HJ36.out; first | omega | exact Nat.le_refl _⟩, ⟨kr_ HO_6⟩, ⟨bk_ BK218⟩, ⟨bk_ BK219⟩, ⟨bl2_ HB GE218 GE219⟩⟩
                        · rw [if_neg c50] at H
                          have c50b0 : (a0_0 == 15) = false := beq_eq_false_iff_ne.mpr c50
                          have c50b1 : (a0_0 != 15) = true := bne_iff_ne.mpr c50
                          (first | rw [c50b0] | (simp only [i64_w, i32_w]; rw [c50b0]) | skip)
                          have H' := Aside0.mk H
                          clear H
                          go_wp2
                          go_meet
                          case rel => exact ⟨_, ((a0_0 == 16)), (by first | rfl | (simp; done) | (simp [*]; done)), H', ⟨by have := HJ2.out; have := HJ19.out; have := HJ36.out; first | omega | exact Nat.le_refl _⟩, ⟨kr_ HO_6⟩, ⟨bk_ BK218⟩, ⟨bk_ BK219⟩, ⟨bl2_ HB GE218 GE219⟩⟩
                      case rest =>
                        clear HC49
                        try clear c1
                        try clear c2
                        try clear p2
                        try clear c3
                        try clear c4
                        try clear c5
                        try clear c7
                        try clear c7b0
                        try clear c7b1
                        try clear c9
                        try clear c15
                        try clear c18
                        try clear c19
                        try clear c19b0
                        try clear c19b1
                        try clear c21
                        try clear c27
                        try clear c27b0
                        try clear c27b1
                        try clear c28
                        try clear c29
                        try clear c31
                        try clear c36
                        try clear c38
                        try clear c38b0
                        try clear c38b1
                        try clear c39
                        try clear c39b0
                        try clear c39b1
                        try clear c40
                        try clear c43
                        try clear c50
                        try clear c50b0
                        try clear c50b1
                        try clear hcz10_0
                        try clear hcz10_1
                        try clear hcz10_2
                        try clear hcz10_3
                        try clear hcz10_4
                        try clear hcz10_5
                        try clear hcz10_6
                        try clear hcz12_0
                        try clear hcz12_1
                        try clear hcz12_2
                        try clear hcz12_3
                        try clear hcz12_4
                        try clear hcz12_5
                        try clear hcz12_6
                        try clear hcz13_0
                        try clear hcz13_1
                        try clear hcz16_0
                        try clear hcz16_1
                        try clear hcz16_2
                        try clear hcz16_3
                        try clear hcz16_4
                        try clear hcz16_5
                        try clear hcz16_6
                        try clear hcz22_0
                        try clear hcz22_1
                        try clear hcz23_0
                        try clear hcz23_1
                        try clear hcz23_2
                        try clear hcz23_3
                        try clear hcz23_4
                        try clear hcz23_5
                        try clear hcz23_6
                        try clear hcz26_0
                        try clear hcz26_1
                        try clear hcz26_2
                        try clear hcz26_3
                        try clear hcz26_4
                        try clear hcz26_5
                        try clear hcz26_6
                        try clear hcz32_0
                        try clear hcz32_1
                        try clear hcz44_0
                        try clear hcz44_1
                        try clear hfz10_0
                        try clear hfz10_1
                        try clear hfz10_2
                        try clear hfz10_3
                        try clear hfz10_4
                        try clear hfz10_5
                        try clear hfz10_6
                        try clear hfz12_0
                        try clear hfz12_1
                        try clear hfz12_2
                        try clear hfz12_3
                        try clear hfz12_4
                        try clear hfz12_5
                        try clear hfz12_6
                        try clear hfz13_0
                        try clear hfz13_1
                        try clear hfz16_0
                        try clear hfz16_1
                        try clear hfz16_2
                        try clear hfz16_3
                        try clear hfz16_4
                        try clear hfz16_5
                        try clear hfz16_6
                        try clear hfz22_0
                        try clear hfz22_1
                        try clear hfz23_0
                        try clear hfz23_1
                        try clear hfz23_2
                        try clear hfz23_3
                        try clear hfz23_4
                        try clear hfz23_5
                        try clear hfz23_6
                        try clear hfz26_0
                        try clear hfz26_1
                        try clear hfz26_2
                        try clear hfz26_3
                        try clear hfz26_4
                        try clear hfz26_5
                        try clear hfz26_6
                        try clear hfz32_0
                        try clear hfz32_1
                        try clear hfz44_0
                        try clear hfz44_1
                        try clear p2
                        obtain ⟨kq, x50_48, rfl, HA, HJ48, HO_6, BK218, BK219, HB⟩ := hcut
                        cases kq with
                        | zero => exact absurd HA.out (by simp [pdu_AnswerBytes.j3])
                        | succ kj48 =>
                          have H := HA.out
                          clear HA
                          simp only [pdu_AnswerBytes.j3] at H
                          by_cases c51 : x50_48 = true
                          · subst c51
                            have H1 : ((pdu_lay.f y225 (([a0_1, a0_2] : List Int))).bind fun t243 => (some (t243, 0))) = some (r1, r2) := by rw [if_pos rfl] at H; exact H
                            clear H
                            have H := H1
                            clear H1
                            obtain ⟨y240, hy240⟩ : ∃ y_ : List Int, y_ = (([a0_1, a0_2] : List Int)) := ⟨_, rfl⟩
                            replace H : ((pdu_lay.f y225 y240).bind fun t243 => (some (t243, 0))) = some (r1, r2) := by first | (rw [hy240]; with_reducible exact H) | (have H2_ := (Option.bind_some _ _).symm.trans H; rw [hy240]; with_reducible exact H2_) | (have H2_ := (Option.bind_some _ _).symm.trans H; with_reducible exact H2_) | with_reducible exact H | (rw [hy240]; exact H) | exact H
                            have Ny240 := Aside0.mk hy240
                            clear hy240
                            replace H := Option.bind_eq_some_iff.mp H
                            obtain ⟨t243, A520, H⟩ := H
                            replace H : (some (t243, 0)) = some (r1, r2) := H
                            have A52 := Aside0.mk A520
                            clear A520
                            simp only [Option.some.injEq, Prod.mk.injEq] at H
                            obtain ⟨rfl, rfl⟩ := H
                            have hnb53 := NB218_219.out
                            have hnc53 := NB219_218.out
                            have hcz54_0 : wc.cell? ⟨gb218, 0, none⟩ = some (.int .i64 a0_0) := (blk_cell BK218.out 0).trans rfl
                            have hcz54_1 : wc.cell? ⟨gb218, 1, none⟩ = some (.int .i64 a0_1) := (blk_cell BK218.out 1).trans rfl
                            have hcz54_2 : wc.cell? ⟨gb218, 2, none⟩ = some (.int .i64 a0_2) := (blk_cell BK218.out 2).trans rfl
                            have hcz54_3 : wc.cell? ⟨gb218, 3, none⟩ = some (.slice A0_3 l0_3.length c0_3) := (blk_cell BK218.out 3).trans rfl
                            have hcz54_4 : wc.cell? ⟨gb218, 4, none⟩ = some (.int .i64 a0_4) := (blk_cell BK218.out 4).trans rfl
                            have hcz54_5 : wc.cell? ⟨gb218, 5, none⟩ = some (.int .i64 a0_5) := (blk_cell BK218.out 5).trans rfl
                            have hcz54_6 : wc.cell? ⟨gb218, 6, none⟩ = some (.int .i64 a0_6) := (blk_cell BK218.out 6).trans rfl
                            have hfz54_0 := blk_frozen BK218.out 0
                            have hfz54_1 := blk_frozen BK218.out 1
                            have hfz54_2 := blk_frozen BK218.out 2
                            have hfz54_3 := blk_frozen BK218.out 3
                            have hfz54_4 := blk_frozen BK218.out 4
                            have hfz54_5 := blk_frozen BK218.out 5
                            have hfz54_6 := blk_frozen BK218.out 6
                            go_wp2_with (first | ((with_reducible refine gate_dst (N := 58) rfl ?_); refine Kd.R_lit (Kd.int .i64) _ 3 ?hg (N := 58) ?hd (xs := ([a0_1, a0_2] : List Int)) (inner := [.int .i64 a0_1, .int .i64 a0_2]) (ok := fun _ => True) (okp := fun _ => True) ?hr ?hp (fun _ hk => hk) trivial (Below.refl _ _) (Nat.le_refl _) (by simp) ?_; (case hd => rfl); (case hg => rfl); (case hr => first | (go_simp; done) | (go_simp; rfl)); (case hp => exact (Reps.one (show Kd.M (Kd.int .i64) _ _ _ a0_1 [.int .i64 a0_1] from rfl) (Reps.one (show Kd.M (Kd.int .i64) _ _ _ a0_2 [.int .i64 a0_2] from rfl) (Reps.none _ _)))); intro v241 w55 ho56 hb hg_ hnew_; clear hg_ hnew_; (first | rw [← Ny240.out] at ho56 | (simp only [Int.reduceToNat] at ho56; rw [← Ny240.out] at ho56)); have n0_ := Aside0.mk (Kd.R_below (kr_ HO_6) hb); have n1_ := Aside0.mk (Kd.R_lower ho56 (below_size (bl2_ HB GE218 GE219))); have n2_ := Aside0.mk (blk_below (g := gb218) (o := .cells #[.int .i64 a0_0, .int .i64 a0_1, .int .i64 a0_2, .slice A0_3 l0_3.length c0_3, .int .i64 a0_4, .int .i64 a0_5, .int .i64 a0_6] 24 (0, 0)) (bk_ BK218) hb); have n3_ := Aside0.mk (blk_below (g := gb219) (o := .cells #[.slice A1_0 l1_0.length c1_0, .int .i64 a1_1] 30 (0, 0)) (bk_ BK219) hb); have n4_ := Aside0.mk (below_step (bl2_ HB GE218 GE219) hb); clear HO_6; clear BK218; clear BK219; clear HB; have HO_6 := n0_; have HO242 := n1_; have BK218 := n2_; have BK219 := n3_; have HB := n4_; clear n0_ n1_ n2_ n3_ n4_; clear hb ho56; obtain ⟨Ao57, co57, eo57⟩ := Kd.R_slice HO_6.out; subst eo57; obtain ⟨Ao58, co58, eo58⟩ := Kd.R_slice HO242.out; subst eo58) | ((with_reducible refine gate_callee (f := 53) rfl ?_); refine goesL_ (some 59) rfl rfl Try.func53 (by kernel_rfl) rfl #[.slice Ao57 y225.length co57, .slice Ao58 y240.length co58] rfl ar_ ?_; (with_reducible refine (pdu_lay.calls _ _ y225 _ _ y240 t243 _ ?side1 ?side2 ?side3 ?side4 A52.out).mono ?_); (case side1 => repeat (first | exact (Kd.R_reads' HO_6.out).2.2 | (with_reducible refine Kd.C_alloc ?_ _) | (with_reducible refine Kd.C_drewN ?_ _) | (with_reducible refine Kd.C_drew ?_))); (case side2 => exact (Kd.R_reads' HO_6.out).2.1); (case side3 => repeat (first | exact (Kd.R_reads' HO242.out).2.2 | (with_reducible refine Kd.C_alloc ?_ _) | (with_reducible refine Kd.C_drewN ?_ _) | (with_reducible refine Kd.C_drew ?_))); (case side4 => exact (Kd.R_reads' HO242.out).2.1); rintro e w59 ⟨v244, rfl, ho0, hb⟩; refine ⟨_, rfl, ?_⟩; have n0_ := Aside0.mk (Kd.R_elder' (kr_ HO_6) (Kd.R_base ho0) hb); have n1_ := Aside0.mk (Kd.R_below (kr_ HO242) hb); have n2_ := Aside0.mk (Kd.R_lower (Kd.R_new' ho0 (Kd.R_lt (kr_ HO_6))) (below_size (bl2_ HB GE218 GE219))); have n3_ := Aside0.mk (blk_below (g := gb218) (o := .cells #[.int .i64 a0_0, .int .i64 a0_1, .int .i64 a0_2, .slice A0_3 l0_3.length c0_3, .int .i64 a0_4, .int .i64 a0_5, .int .i64 a0_6] 24 (0, 0)) (bk_ BK218) hb); have n4_ := Aside0.mk (blk_below (g := gb219) (o := .cells #[.slice A1_0 l1_0.length c1_0, .int .i64 a1_1] 30 (0, 0)) (bk_ BK219) hb); have n5_ := Aside0.mk (below_step (bl2_ HB GE218 GE219) hb); clear HO_6; clear HO242; clear BK218; clear BK219; clear HB; have HO_6 := n0_; have HO242 := n1_; have HO245 := n2_; have BK218 := n3_; have BK219 := n4_; have HB := n5_; clear n0_ n1_ n2_ n3_ n4_ n5_; (try clear hb); (try clear hb2); (try clear hk); (try clear hi); (try clear ho0)))
                            go_ret2
                            exact ⟨_, by first | rfl | (simp [errW_none, errW_some] <;> rfl) | (simp [*, errW_none, errW_some] <;> rfl), by (with_reducible repeat (first | apply Kd.R_alloc | apply Kd.R_drewN | apply Kd.R_drew)); exact Kd.R_mono HO245.out (fun _ hk => trivial), bl2_ HB GE218 GE219⟩
                          · replace c51 := Bool.eq_false_iff.mpr c51
                            subst c51
                            have H1 : ((pdu_Bytes.f kj48 a0_0 a0_1 a0_2 l0_3 a0_4 a0_5 a0_6).bind fun bt246 => (some (bt246.1, bt246.2))) = some (r1, r2) := by rw [if_neg (show ¬ (false = true) by decide)] at H; exact H
                            clear H
                            have H := H1
                            clear H1
                            replace H := Option.bind_eq_some_iff.mp H
                            obtain ⟨⟨t246, t249⟩, A600, H⟩ := H
                            replace H : (some (t246, t249)) = some (r1, r2) := H
                            have A60 := Aside0.mk A600
                            clear A600
                            simp only [Option.some.injEq, Prod.mk.injEq] at H
                            obtain ⟨rfl, rfl⟩ := H
                            have hnb61 := NB218_219.out
                            have hnc61 := NB219_218.out
                            have hcz62_0 : wc.cell? ⟨gb218, 0, none⟩ = some (.int .i64 a0_0) := (blk_cell BK218.out 0).trans rfl
                            have hcz62_1 : wc.cell? ⟨gb218, 1, none⟩ = some (.int .i64 a0_1) := (blk_cell BK218.out 1).trans rfl
                            have hcz62_2 : wc.cell? ⟨gb218, 2, none⟩ = some (.int .i64 a0_2) := (blk_cell BK218.out 2).trans rfl
                            have hcz62_3 : wc.cell? ⟨gb218, 3, none⟩ = some (.slice A0_3 l0_3.length c0_3) := (blk_cell BK218.out 3).trans rfl
                            have hcz62_4 : wc.cell? ⟨gb218, 4, none⟩ = some (.int .i64 a0_4) := (blk_cell BK218.out 4).trans rfl
                            have hcz62_5 : wc.cell? ⟨gb218, 5, none⟩ = some (.int .i64 a0_5) := (blk_cell BK218.out 5).trans rfl
                            have hcz62_6 : wc.cell? ⟨gb218, 6, none⟩ = some (.int .i64 a0_6) := (blk_cell BK218.out 6).trans rfl
                            have hfz62_0 := blk_frozen BK218.out 0
                            have hfz62_1 := blk_frozen BK218.out 1
                            have hfz62_2 := blk_frozen BK218.out 2
                            have hfz62_3 := blk_frozen BK218.out 3
                            have hfz62_4 := blk_frozen BK218.out 4
                            have hfz62_5 := blk_frozen BK218.out 5
                            have hfz62_6 := blk_frozen BK218.out 6
                            go_wp2_with (first | ((with_reducible refine gate_callee (f := 30) rfl ?_); refine goesL_ (some 61) rfl rfl Try.func30 (by kernel_rfl) rfl #[.agg #[.int .i64 a0_0, .int .i64 a0_1, .int .i64 a0_2, .slice A0_3 l0_3.length c0_3, .int .i64 a0_4, .int .i64 a0_5, .int .i64 a0_6]] rfl ar_ ?_; (with_reducible refine (pdu_Bytes.calls kj48 a0_0 a0_1 a0_2 _ _ l0_3 a0_4 a0_5 a0_6 t246 t249 _ ?side1 ?side2 A60.out).mono ?_); (case side1 => repeat (first | exact (Kd.C_below HR0_3.out HB.out) | (with_reducible refine Kd.C_alloc ?_ _) | (with_reducible refine Kd.C_drewN ?_ _) | (with_reducible refine Kd.C_drew ?_))); (case side2 => exact HC0_3.out); rintro e w63 ⟨v247, rfl, ho0, hb⟩; refine ⟨_, rfl, ?_⟩; have n0_ := Aside0.mk (Kd.R_elder' (kr_ HO_6) (Kd.R_base ho0) hb); have n1_ := Aside0.mk (Kd.R_lower (Kd.R_new' ho0 (Kd.R_lt (kr_ HO_6))) (below_size (bl2_ HB GE218 GE219))); have n2_ := Aside0.mk (blk_below (g := gb218) (o := .cells #[.int .i64 a0_0, .int .i64 a0_1, .int .i64 a0_2, .slice A0_3 l0_3.length c0_3, .int .i64 a0_4, .int .i64 a0_5, .int .i64 a0_6] 24 (0, 0)) (bk_ BK218) hb); have n3_ := Aside0.mk (blk_below (g := gb219) (o := .cells #[.slice A1_0 l1_0.length c1_0, .int .i64 a1_1] 30 (0, 0)) (bk_ BK219) hb); have n4_ := Aside0.mk (below_step (bl2_ HB GE218 GE219) hb); clear HO_6; clear BK218; clear BK219; clear HB; have HO_6 := n0_; have HO248 := n1_; have BK218 := n2_; have BK219 := n3_; have HB := n4_; clear n0_ n1_ n2_ n3_ n4_; (try clear hb); (try clear hb2); (try clear hk); (try clear hi); (try clear ho0)))
                            go_ret2
                            exact ⟨_, by first | rfl | (simp [errW_none, errW_some] <;> rfl) | (simp [*, errW_none, errW_some] <;> rfl), by (with_reducible repeat (first | apply Kd.R_alloc | apply Kd.R_drewN | apply Kd.R_drew)); exact Kd.R_mono HO248.out (fun _ hk => trivial), bl2_ HB GE218 GE219⟩
        · rw [if_neg c19] at H
          have c19b0 : (a1_1 == 0) = false := beq_eq_false_iff_ne.mpr c19
          have c19b1 : (a1_1 != 0) = true := bne_iff_ne.mpr c19
          obtain ⟨y222, hy222⟩ : ∃ y_ : List Int, y_ = (([Go.bits .or .u8 ((a0_0) % 256) 128, (a1_1) % 256] : List Int)) := ⟨_, rfl⟩
          replace H : (some (y222, 0)) = some (r1, r2) := by first | (rw [hy222]; with_reducible exact H) | (have H2_ := (Option.bind_some _ _).symm.trans H; rw [hy222]; with_reducible exact H2_) | (have H2_ := (Option.bind_some _ _).symm.trans H; with_reducible exact H2_) | with_reducible exact H | (rw [hy222]; exact H) | exact H
          have Ny222 := Aside0.mk hy222
          clear hy222
          simp only [Option.some.injEq, Prod.mk.injEq] at H
          obtain ⟨rfl, rfl⟩ := H
          have hnb64 := NB219_218.out
          have hnc64 := NB218_219.out
          have hcz65_0 : wc.cell? ⟨gb219, 0, none⟩ = some (.slice A1_0 l1_0.length c1_0) := (blk_cell BK219.out 0).trans rfl
          have hcz65_1 : wc.cell? ⟨gb219, 1, none⟩ = some (.int .i64 a1_1) := (blk_cell BK219.out 1).trans rfl
          have hfz65_0 := blk_frozen BK219.out 0
          have hfz65_1 := blk_frozen BK219.out 1
          have hcz66_0 : wc.cell? ⟨gb218, 0, none⟩ = some (.int .i64 a0_0) := (blk_cell BK218.out 0).trans rfl
          have hcz66_1 : wc.cell? ⟨gb218, 1, none⟩ = some (.int .i64 a0_1) := (blk_cell BK218.out 1).trans rfl
          have hcz66_2 : wc.cell? ⟨gb218, 2, none⟩ = some (.int .i64 a0_2) := (blk_cell BK218.out 2).trans rfl
          have hcz66_3 : wc.cell? ⟨gb218, 3, none⟩ = some (.slice A0_3 l0_3.length c0_3) := (blk_cell BK218.out 3).trans rfl
          have hcz66_4 : wc.cell? ⟨gb218, 4, none⟩ = some (.int .i64 a0_4) := (blk_cell BK218.out 4).trans rfl
          have hcz66_5 : wc.cell? ⟨gb218, 5, none⟩ = some (.int .i64 a0_5) := (blk_cell BK218.out 5).trans rfl
          have hcz66_6 : wc.cell? ⟨gb218, 6, none⟩ = some (.int .i64 a0_6) := (blk_cell BK218.out 6).trans rfl
          have hfz66_0 := blk_frozen BK218.out 0
          have hfz66_1 := blk_frozen BK218.out 1
          have hfz66_2 := blk_frozen BK218.out 2
          have hfz66_3 := blk_frozen BK218.out 3
          have hfz66_4 := blk_frozen BK218.out 4
          have hfz66_5 := blk_frozen BK218.out 5
          have hfz66_6 := blk_frozen BK218.out 6
          go_wp2_with (first | ((with_reducible refine gate_dst (N := 26) rfl ?_); refine Kd.R_lit (Kd.int .u8) _ 5 ?hg (N := 26) ?hd (xs := ([Go.bits .or .u8 ((a0_0) % 256) 128, (a1_1) % 256] : List Int)) (inner := [.int .u8 (Go.bits .or .u8 ((a0_0) % 256) 128), .int .u8 ((a1_1) % 256)]) (ok := fun _ => True) (okp := fun _ => True) ?hr ?hp (fun _ hk => hk) trivial (Below.refl _ _) (Nat.le_refl _) (by simp) ?_; (case hd => rfl); (case hg => rfl); (case hr => first | (go_simp; done) | (go_simp; rfl)); (case hp => exact (Reps.one (show Kd.M (Kd.int .u8) _ _ _ (Go.bits .or .u8 ((a0_0) % 256) 128) [.int .u8 (Go.bits .or .u8 ((a0_0) % 256) 128)] from rfl) (Reps.one (show Kd.M (Kd.int .u8) _ _ _ ((a1_1) % 256) [.int .u8 ((a1_1) % 256)] from rfl) (Reps.none _ _)))); intro v223 w67 ho68 hb hg_ hnew_; clear hg_ hnew_; (first | rw [← Ny222.out] at ho68 | (simp only [Int.reduceToNat] at ho68; rw [← Ny222.out] at ho68)); have n0_ := Aside0.mk (Kd.R_lower ho68 (below_size (bl2_ HB GE218 GE219))); have n1_ := Aside0.mk (blk_below (g := gb218) (o := .cells #[.int .i64 a0_0, .int .i64 a0_1, .int .i64 a0_2, .slice A0_3 l0_3.length c0_3, .int .i64 a0_4, .int .i64 a0_5, .int .i64 a0_6] 24 (0, 0)) (bk_ BK218) hb); have n2_ := Aside0.mk (blk_below (g := gb219) (o := .cells #[.slice A1_0 l1_0.length c1_0, .int .i64 a1_1] 30 (0, 0)) (bk_ BK219) hb); have n3_ := Aside0.mk (below_step (bl2_ HB GE218 GE219) hb); clear BK218; clear BK219; clear HB; have HO224 := n0_; have BK218 := n1_; have BK219 := n2_; have HB := n3_; clear n0_ n1_ n2_ n3_; clear hb ho68))
          go_ret2
          exact ⟨_, by first | rfl | (simp [errW_none, errW_some] <;> rfl) | (simp [*, errW_none, errW_some] <;> rfl), kr_ HO224, bl2_ HB GE218 GE219⟩
end Go.Proofs.Ytocicifgglkaeaa.PQ
end

/- The words, contracts and walks that this claim leans on, put together by a program of this session (part 2). -/
import Derived.Test.YtocicifgglkaeaaZA1
section
namespace Go.Proofs.Ytocicifgglkaeaa.PQ
open Go.RowKit Go.Proofs.YtocicifgglkaeaaW.PrintWords Go.Proofs.YtocicifgglkaeaaW.PrintLast Go.Proofs.YtocicifgglkaeaaW.PrintMore
attribute [local go_sem] max2_int min2_int max_two min_two max_three min_three max_four min_four   
set_option linter.unusedVariables false
set_option linter.unusedSimpArgs false
open Go.Proofs.Ytocicifgglkaeaa.Ext Go.Proofs.Ytocicifgglkaeaa.PP Go.Proofs.Ytocicifgglkaeaa.ExtF
def pdu_counted.f (l0 : List Int) (l1 : List Int) : Option (List Int) := if l0.length < 140737488355328 then ((some (l0 ++ [((l1.length : Int)) % 256] : List Int)).bind fun y128 => (if y128.length + l1.length < 140737488355328 then (some (y128 ++ l1)) else (none))) else (none)
set_option maxHeartbeats 8000000 in
set_option maxRecDepth 100000 in
theorem pdu_counted.calls (P0_ : Nat → Prop) (u9000_ : Value) (l0 : List Int) (A1 : Option Addr) (c1 : Nat) (l1 : List Int) (r : List Int) (w0 w : World) (hB : Below w0.heap.size w0 w) (ho0 : Kd.R (Kd.int .u8) 5 w w0.heap.size P0_ u9000_ l0) (hr1 : ∀ W_, Kept w W_ (fun k_ => P0_ k_) → Kd.C (Kd.int .u8) W_ A1 l1.length l1) (hc1 : l1.length ≤ c1) (h : pdu_counted.f l0 l1 = some r) :
 Calls Try.prog 54 #[u9000_, .slice A1 l1.length c1] w fun e w' => ∃ v0_ : Value, e = .returned (v0_) ∧ Kd.R (Kd.int .u8) 5 w' w0.heap.size (fun k_ => (P0_ k_ ∨ w.heap.size ≤ k_)) v0_ r ∧ Below w0.heap.size w0 w' ∧ Kept w w' (fun k_ => P0_ k_) := by
 have HO0 := Aside0.mk (show Kd.R (Kd.int .u8) 5 w w0.heap.size (fun k_ => (P0_ k_ ∨ w.heap.size ≤ k_)) u9000_ l0 from Kd.R_mono ho0 (fun k_ hk => (.inl hk)))
 have HR1 := Aside0.mk hr1
 have HC1 := Aside0.mk hc1
 clear hr1 hc1
 have HK := Aside0.mk (Kept.refl w (fun k_ => P0_ k_))
 have HW0 := Aside0.mk hB.size
 have HB := Aside0.mk hB
 clear hB
 have H : (if l0.length < 140737488355328 then ((some (l0 ++ [((l1.length : Int)) % 256] : List Int)).bind fun y128 => (if y128.length + l1.length < 140737488355328 then (some (y128 ++ l1)) else (none))) else (none)) = some r := h
 clear h
 by_cases c3 : l0.length < 140737488355328
 ·rw [if_pos c3] at H
  have LMc3 := Aside0.mk c3
  clear c3
  obtain ⟨y128, hy128⟩ : ∃ y_ : List Int, y_ = (l0 ++ [((l1.length : Int)) % 256]) := ⟨_, rfl⟩
  replace H : (if y128.length + l1.length < 140737488355328 then (some (y128 ++ l1)) else (none)) = some r := by first | (rw [hy128]; with_reducible exact H) | (have H2_ := (Option.bind_some _ _).symm.trans H; rw [hy128]; with_reducible exact H2_) | (have H2_ := (Option.bind_some _ _).symm.trans H; with_reducible exact H2_) | with_reducible exact H | (rw [hy128]; exact H) | exact H
  have Ny128 := Aside0.mk hy128
  clear hy128
  by_cases c4 : y128.length + l1.length < 140737488355328
  ·rw [if_pos c4] at H
   have LMc4 := Aside0.mk c4
   clear c4
   obtain ⟨y131, hy131⟩ : ∃ y_ : List Int, y_ = (y128 ++ l1) := ⟨_, rfl⟩
   replace H : (some y131) = some r := by first | (rw [hy131]; with_reducible exact H) | (have H2_ := (Option.bind_some _ _).symm.trans H; rw [hy131]; with_reducible exact H2_) | (have H2_ := (Option.bind_some _ _).symm.trans H; with_reducible exact H2_) | with_reducible exact H | (rw [hy131]; exact H) | exact H
   have Ny131 := Aside0.mk hy131
   clear hy131
   obtain rfl := Option.some.inj H
   go_enter Try.func54, Try.ntmps54
   go_wp2_with (first | ((with_reducible refine gate_builtin (b := .append) (xs := #[.tmp 5, .tmp 9]) rfl ?_); at_builtin; refine Kd.R_append (Kd.int .u8) (w0 := w0) w0.heap.size rfl (.tmp 5) (.tmp 9) 58 5 (.int .u8 0) 1 rfl Try.underlying58 info5 rfl (by decide) (by omega) u9000_ l0 (((l1.length : Int)) % 256) [.int .u8 (((l1.length : Int)) % 256)] (fun k_ => (P0_ k_ ∨ w.heap.size ≤ k_)) (fun _ => False) rfl rfl ?aP (fun _ hk => hk.elim) ?aF ?aO ?aB ?aS ?aL ?_; (case aP => exact rfl); (case aB => exact (bl0_ HB)); (case aF => exact (fun k_ hk => (.inr (Nat.le_trans (by first | exact HK.out.1 | exact (show Kept w _ (fun k_ => P0_ k_) from by repeat (first | (with_reducible first | exact HK.out | apply Kept.alloc | apply Kept.drewN | apply Kept.drew) | exact HK.out)).1) hk)))); (case aO => exact (kr_ HO0)); (case aS => exact (below_size (bl0_ HB))); (case aL => have := LMc3.out; omega); intro v129 w5 ho hb hg hat; rw [← Ny128.out] at ho; have n0_ := Aside0.mk (hb); have n1_ := Aside0.mk (Kept.of_grown (S := (fun k_ => P0_ k_)) hg (by repeat (first | (with_reducible first | exact HK.out | apply Kept.alloc | apply Kept.drewN | apply Kept.drew) | exact HK.out)) (fun k_ e_ => (HO0.out.1 k_ e_))); have n2_ := Aside0.mk (ho); clear HB; clear HK; clear HO0; have HB := n0_; have HK := n1_; have HO130 := n2_; clear n0_ n1_ n2_; clear ho hb hg hat) | ((with_reducible refine gate_builtin (b := .append) (xs := #[.tmp 10, .tmp 11]) rfl ?_); at_builtin; refine Kd.R_append_rows (Kd.int .u8) (w0 := w0) w0.heap.size rfl (.tmp 10) (.tmp 11) 58 5 (.int .u8 0) 1 rfl Try.underlying58 info5 rfl (by decide) (by omega) v129 y128 l1 _ _ _ (fun k_ => (P0_ k_ ∨ w.heap.size ≤ k_)) (fun _ => False) rfl rfl ?aO ?aR (fun _ _ h => h) (fun _ h => h.elim) ?aF ?aB ?aS ?aL ?_; (case aR => exact Kd.C_kept_now HR1.out (by repeat (first | (with_reducible first | exact HK.out | apply Kept.alloc | apply Kept.drewN | apply Kept.drew) | exact HK.out))); (case aB => exact (bl0_ HB)); (case aF => exact (fun k_ hk => (.inr (Nat.le_trans (by first | exact HK.out.1 | exact (show Kept w _ (fun k_ => P0_ k_) from by repeat (first | (with_reducible first | exact HK.out | apply Kept.alloc | apply Kept.drewN | apply Kept.drew) | exact HK.out)).1) hk)))); (case aO => exact (kr_ HO130)); (case aS => exact (below_size (bl0_ HB))); (case aL => have := LMc4.out; omega); intro v132 w6 ho hb hg hat; rw [← Ny131.out] at ho; have n0_ := Aside0.mk (hb); have n1_ := Aside0.mk (Kept.of_grown (S := (fun k_ => P0_ k_)) hg (by repeat (first | (with_reducible first | exact HK.out | apply Kept.alloc | apply Kept.drewN | apply Kept.drew) | exact HK.out)) (fun k_ e_ => (HO130.out.1 k_ e_))); have n2_ := Aside0.mk (ho); clear HB; clear HK; clear HO130; have HB := n0_; have HK := n1_; have HO133 := n2_; clear n0_ n1_ n2_; clear ho hb hg hat))
   go_ret
   exact ⟨_, er_, kr_ HO133, bl0_ HB, by repeat (first | (with_reducible first | exact HK.out | apply Kept.alloc | apply Kept.drewN | apply Kept.drew) | exact HK.out)⟩
  ·rw [if_neg c4] at H
   exact absurd H (by simp)
 ·rw [if_neg c3] at H
  exact absurd H (by simp)
def pdu_packed.f (k : Nat) (l0 : List Int) : Option (List Int) := (wire_Pack.f k l0).bind fun bt134 => (some bt134.1)
theorem pdu_packed.mono : ∀ a0 k, LeO (pdu_packed.f k a0) (pdu_packed.f (k + 1) a0) := by
 intro a0 k
 unfold pdu_packed.f
 repeat' first
  | (with_reducible exact wire_Pack.mono _ _)
  | (with_reducible exact LeO.refl _)
  | (with_reducible exact LeO.none _)
  | (with_reducible refine LeO.ite ?_ ?_)
  | (with_reducible refine LeO.bind ?_ (fun _ => ?_))
  | exact wire_Pack.mono _ _
  | exact LeO.none _
  | refine LeO.ite ?_ ?_
  | refine LeO.bind ?_ (fun _ => ?_)
set_option maxHeartbeats 8000000 in
set_option maxRecDepth 100000 in
theorem pdu_packed.calls (k : Nat) (A0 : Option Addr) (c0 : Nat) (l0 : List Int) (r : List Int) (w : World) (hr0 : Kd.C (Kd.int .i64) w A0 l0.length l0) (hc0 : l0.length ≤ c0) (h : pdu_packed.f k l0 = some r) :
 Calls Try.prog 55 #[.slice A0 l0.length c0] w fun e w' => ∃ v0_ : Value, e = .returned (v0_) ∧ Kd.R (Kd.int .u8) 5 w' w.heap.size (fun _ => True) v0_ r ∧ Below w.heap.size w w' := by
 have HR0 := Aside0.mk hr0
 have HC0 := Aside0.mk hc0
 clear hr0 hc0
 have HB := Aside0.mk (Below.refl w.heap.size w)
 have H : ((wire_Pack.f k l0).bind fun bt134 => (some bt134.1)) = some r := h
 clear h
 replace H := Option.bind_eq_some_iff.mp H
 obtain ⟨⟨t134, t135⟩, A20, H⟩ := H
 replace H : (some t134) = some r := H
 have A2 := Aside0.mk A20
 clear A20
 obtain rfl := Option.some.inj H
 go_enter Try.func55, Try.ntmps55
 go_wp2_with (first | ((with_reducible refine gate_callee (f := 70) rfl ?_); refine goesL_ (some 7) rfl rfl Try.func70 (by kernel_rfl) rfl #[.slice A0 l0.length c0] rfl ar_ ?_; (with_reducible refine (wire_Pack.calls k _ _ l0 t134 t135 _ ?side1 ?side2 A2.out).mono ?_); (case side1 => repeat (first | exact HR0.out | (with_reducible refine Kd.C_alloc ?_ _) | (with_reducible refine Kd.C_drewN ?_ _) | (with_reducible refine Kd.C_drew ?_))); (case side2 => exact HC0.out); rintro e w3 ⟨v136, rfl, ho0, hb⟩; refine ⟨_, rfl, ?_⟩; have n0_ := Aside0.mk (Kd.R_lower ho0 (below_size (bl0_ HB))); have n1_ := Aside0.mk (below_step (bl0_ HB) hb); clear HB; have HO137 := n0_; have HB := n1_; clear n0_ n1_; (try clear hb); (try clear hb2); (try clear hk); (try clear hi); (try clear ho0)))
 go_ret
 exact ⟨_, er_, kr_ HO137, bl0_ HB⟩
def pdu_Bytes.f (k : Nat) (a0_0 : Int) (a0_1 : Int) (a0_2 : Int) (l0_3 : List Int) (a0_4 : Int) (a0_5 : Int) (a0_6 : Int) : Option (List Int × Int) := (pdu_Check.f k a0_0 a0_1 a0_2 l0_3 a0_4 a0_5 a0_6).bind fun t139 => (if t139 = 0 then ((pdu_lay.f (([(a0_0) % 256] : List Int)) (([a0_1] : List Int))).bind fun t146 => (if a0_0 = 5 then (if 0 < (l0_3.length : Int) then ((pdu_lay.f t146 (([wrap64 (65280 * (rd l0_3 0))] : List Int))).bind fun t153 => (some (t153, 0))) else (none)) else (if a0_0 = 6 then (if 0 < (l0_3.length : Int) then ((pdu_lay.f t146 (([rd l0_3 0] : List Int))).bind fun t160 => (some (t160, 0))) else (none)) else (if a0_0 = 22 then ((pdu_lay.f t146 (([a0_5, a0_6] : List Int))).bind fun t166 => (some (t166, 0))) else (if a0_0 = 15 then ((pdu_lay.f t146 (([a0_2] : List Int))).bind fun t172 => ((pdu_packed.f k l0_3).bind fun t175 => ((pdu_counted.f t172 t175).bind fun t178 => (some (t178, 0))))) else (if a0_0 = 23 then ((pdu_lay.f t146 (([a0_2, a0_4, (l0_3.length : Int)] : List Int))).bind fun t184 => ((pdu_lay.f ([] : List Int) l0_3).bind fun t187 => ((pdu_counted.f t184 t187).bind fun t190 => (some (t190, 0))))) else (if a0_0 = 16 then ((pdu_lay.f t146 (([a0_2] : List Int))).bind fun t196 => ((pdu_lay.f ([] : List Int) l0_3).bind fun t199 => ((pdu_counted.f t196 t199).bind fun t202 => (some (t202, 0))))) else ((pdu_lay.f t146 (([a0_2] : List Int))).bind fun t208 => (some (t208, 0)))))))))) else (some (([] : List Int), t139)))
theorem pdu_Bytes.mono : ∀ a0 a1 a2 a3 a4 a5 a6 k, LeO (pdu_Bytes.f k a0 a1 a2 a3 a4 a5 a6) (pdu_Bytes.f (k + 1) a0 a1 a2 a3 a4 a5 a6) := by
 intro a0 a1 a2 a3 a4 a5 a6 k
 unfold pdu_Bytes.f
 repeat' first
  | (with_reducible exact pdu_Check.mono _ _ _ _ _ _ _ _)
  | (with_reducible exact pdu_packed.mono _ _)
  | (with_reducible exact LeO.refl _)
  | (with_reducible exact LeO.none _)
  | (with_reducible refine LeO.ite ?_ ?_)
  | (with_reducible refine LeO.bind ?_ (fun _ => ?_))
  | exact pdu_Check.mono _ _ _ _ _ _ _ _
  | exact pdu_packed.mono _ _
  | exact LeO.none _
  | refine LeO.ite ?_ ?_
  | refine LeO.bind ?_ (fun _ => ?_)
def pdu_Bytes.T14 : Bool × List (List Nat × List Nat) := (true, [([], []), ([], []), ([1], [1]), ([2], [2]), ([0, 3], [0, 3]), ([], []), ([5], [5]), ([6, 4], [6]), ([4, 7, 7], [4, 7]), ([8, 8, 0, 1, 2, 3, 4, 5, 6, 7, 8], [0, 8])])
def pdu_Bytes.B14 : List Nat := [0, 0, 2, 6, 15, 0, 32, 127, 255, 511]
theorem pdu_Bytes.tab14 : rtab .any (opsOf Try.f30 14) = pdu_Bytes.T14 := by kernel_rfl
theorem pdu_Bytes.bits14 : waitsOk pdu_Bytes.T14.2 pdu_Bytes.B14 = true := by kernel_rfl
def pdu_Bytes.T19 : Bool × List (List Nat × List Nat) := (true, [([], []), ([], []), ([1], [1]), ([2], [2]), ([0, 3], [0, 3]), ([], []), ([5], [5]), ([6, 4], [6]), ([4, 7, 7], [4, 7]), ([8, 8, 0, 1, 2, 3, 4, 5, 6, 7, 8], [0, 8])])
def pdu_Bytes.B19 : List Nat := [0, 0, 2, 6, 15, 0, 32, 127, 255, 511]
theorem pdu_Bytes.tab19 : rtab .any (opsOf Try.f30 19) = pdu_Bytes.T19 := by kernel_rfl
theorem pdu_Bytes.bits19 : waitsOk pdu_Bytes.T19.2 pdu_Bytes.B19 = true := by kernel_rfl
set_option maxHeartbeats 8000000 in
set_option maxRecDepth 100000 in
theorem pdu_Bytes.calls (k : Nat) (a0_0 : Int) (a0_1 : Int) (a0_2 : Int) (A0_3 : Option Addr) (c0_3 : Nat) (l0_3 : List Int) (a0_4 : Int) (a0_5 : Int) (a0_6 : Int) (r1 : List Int) (r2 : Int) (w : World) (hr0_3 : Kd.C (Kd.int .i64) w A0_3 l0_3.length l0_3) (hc0_3 : l0_3.length ≤ c0_3) (h : pdu_Bytes.f k a0_0 a0_1 a0_2 l0_3 a0_4 a0_5 a0_6 = some (r1, r2)) :
 Calls Try.prog 30 #[.agg #[.int .i64 a0_0, .int .i64 a0_1, .int .i64 a0_2, .slice A0_3 l0_3.length c0_3, .int .i64 a0_4, .int .i64 a0_5, .int .i64 a0_6]] w fun e w' => ∃ v0_ : Value, e = .returned (.tuple #[v0_, .int .i64 r2]) ∧ Kd.R (Kd.int .u8) 5 w' w.heap.size (fun _ => True) v0_ r1 ∧ Below w.heap.size w w' := by
 have hu24 := Try.underlying24
 have HR0_3 := Aside0.mk hr0_3
 have HC0_3 := Aside0.mk hc0_3
 clear hr0_3 hc0_3
 have HB := Aside0.mk (Below.refl w.heap.size w)
 have H : ((pdu_Check.f k a0_0 a0_1 a0_2 l0_3 a0_4 a0_5 a0_6).bind fun t139 => (if t139 = 0 then ((pdu_lay.f (([(a0_0) % 256] : List Int)) (([a0_1] : List Int))).bind fun t146 => (if a0_0 = 5 then (if 0 < (l0_3.length : Int) then ((pdu_lay.f t146 (([wrap64 (65280 * (rd l0_3 0))] : List Int))).bind fun t153 => (some (t153, 0))) else (none)) else (if a0_0 = 6 then (if 0 < (l0_3.length : Int) then ((pdu_lay.f t146 (([rd l0_3 0] : List Int))).bind fun t160 => (some (t160, 0))) else (none)) else (if a0_0 = 22 then ((pdu_lay.f t146 (([a0_5, a0_6] : List Int))).bind fun t166 => (some (t166, 0))) else (if a0_0 = 15 then ((pdu_lay.f t146 (([a0_2] : List Int))).bind fun t172 => ((pdu_packed.f k l0_3).bind fun t175 => ((pdu_counted.f t172 t175).bind fun t178 => (some (t178, 0))))) else (if a0_0 = 23 then ((pdu_lay.f t146 (([a0_2, a0_4, (l0_3.length : Int)] : List Int))).bind fun t184 => ((pdu_lay.f ([] : List Int) l0_3).bind fun t187 => ((pdu_counted.f t184 t187).bind fun t190 => (some (t190, 0))))) else (if a0_0 = 16 then ((pdu_lay.f t146 (([a0_2] : List Int))).bind fun t196 => ((pdu_lay.f ([] : List Int) l0_3).bind fun t199 => ((pdu_counted.f t196 t199).bind fun t202 => (some (t202, 0))))) else ((pdu_lay.f t146 (([a0_2] : List Int))).bind fun t208 => (some (t208, 0)))))))))) else (some (([] : List Int), t139)))) = some (r1, r2) := h
 clear h
 replace H := Option.bind_eq_some_iff.mp H
 obtain ⟨t139, A20, H⟩ := H
 replace H : (if t139 = 0 then ((pdu_lay.f (([(a0_0) % 256] : List Int)) (([a0_1] : List Int))).bind fun t146 => (if a0_0 = 5 then (if 0 < (l0_3.length : Int) then ((pdu_lay.f t146 (([wrap64 (65280 * (rd l0_3 0))] : List Int))).bind fun t153 => (some (t153, 0))) else (none)) else (if a0_0 = 6 then (if 0 < (l0_3.length : Int) then ((pdu_lay.f t146 (([rd l0_3 0] : List Int))).bind fun t160 => (some (t160, 0))) else (none)) else (if a0_0 = 22 then ((pdu_lay.f t146 (([a0_5, a0_6] : List Int))).bind fun t166 => (some (t166, 0))) else (if a0_0 = 15 then ((pdu_lay.f t146 (([a0_2] : List Int))).bind fun t172 => ((pdu_packed.f k l0_3).bind fun t175 => ((pdu_counted.f t172 t175).bind fun t178 => (some (t178, 0))))) else (if a0_0 = 23 then ((pdu_lay.f t146 (([a0_2, a0_4, (l0_3.length : Int)] : List Int))).bind fun t184 => ((pdu_lay.f ([] : List Int) l0_3).bind fun t187 => ((pdu_counted.f t184 t187).bind fun t190 => (some (t190, 0))))) else (if a0_0 = 16 then ((pdu_lay.f t146 (([a0_2] : List Int))).bind fun t196 => ((pdu_lay.f ([] : List Int) l0_3).bind fun t199 => ((pdu_counted.f t196 t199).bind fun t202 => (some (t202, 0))))) else ((pdu_lay.f t146 (([a0_2] : List Int))).bind fun t208 => (some (t208, 0)))))))))) else (some (([] : List Int), t139))) = some (r1, r2) := H
 have A2 := Aside0.mk A20
 clear A20
 by_cases c3 : t139 = 0
 ·rw [if_pos c3] at H
  have c3b0 : (t139 == 0) = true := beq_iff_eq.mpr c3
  have c3b1 : (t139 != 0) = false := bne_eq_false_iff_eq.mpr c3
  clear c3
  obtain ⟨y140, hy140⟩ : ∃ y_ : List Int, y_ = (([(a0_0) % 256] : List Int)) := ⟨_, rfl⟩
  replace H : ((pdu_lay.f y140 (([a0_1] : List Int))).bind fun t146 => (if a0_0 = 5 then (if 0 < (l0_3.length : Int) then ((pdu_lay.f t146 (([wrap64 (65280 * (rd l0_3 0))] : List Int))).bind fun t153 => (some (t153, 0))) else (none)) else (if a0_0 = 6 then (if 0 < (l0_3.length : Int) then ((pdu_lay.f t146 (([rd l0_3 0] : List Int))).bind fun t160 => (some (t160, 0))) else (none)) else (if a0_0 = 22 then ((pdu_lay.f t146 (([a0_5, a0_6] : List Int))).bind fun t166 => (some (t166, 0))) else (if a0_0 = 15 then ((pdu_lay.f t146 (([a0_2] : List Int))).bind fun t172 => ((pdu_packed.f k l0_3).bind fun t175 => ((pdu_counted.f t172 t175).bind fun t178 => (some (t178, 0))))) else (if a0_0 = 23 then ((pdu_lay.f t146 (([a0_2, a0_4, (l0_3.length : Int)] : List Int))).bind fun t184 => ((pdu_lay.f ([] : List Int) l0_3).bind fun t187 => ((pdu_counted.f t184 t187).bind fun t190 => (some (t190, 0))))) else (if a0_0 = 16 then ((pdu_lay.f t146 (([a0_2] : List Int))).bind fun t196 => ((pdu_lay.f ([] : List Int) l0_3).bind fun t199 => ((pdu_counted.f t196 t199).bind fun t202 => (some (t202, 0))))) else ((pdu_lay.f t146 (([a0_2] : List Int))).bind fun t208 => (some (t208, 0)))))))))) = some (r1, r2) := by first | (rw [hy140]; with_reducible exact H) | (have H2_ := (Option.bind_some _ _).symm.trans H; rw [hy140]; with_reducible exact H2_) | (have H2_ := (Option.bind_some _ _).symm.trans H; with_reducible exact H2_) | with_reducible exact H | (rw [hy140]; exact H) | exact H
  have Ny140 := Aside0.mk hy140
  clear hy140
  obtain ⟨y143, hy143⟩ : ∃ y_ : List Int, y_ = (([a0_1] : List Int)) := ⟨_, rfl⟩
  replace H : ((pdu_lay.f y140 y143).bind fun t146 => (if a0_0 = 5 then (if 0 < (l0_3.length : Int) then ((pdu_lay.f t146 (([wrap64 (65280 * (rd l0_3 0))] : List Int))).bind fun t153 => (some (t153, 0))) else (none)) else (if a0_0 = 6 then (if 0 < (l0_3.length : Int) then ((pdu_lay.f t146 (([rd l0_3 0] : List Int))).bind fun t160 => (some (t160, 0))) else (none)) else (if a0_0 = 22 then ((pdu_lay.f t146 (([a0_5, a0_6] : List Int))).bind fun t166 => (some (t166, 0))) else (if a0_0 = 15 then ((pdu_lay.f t146 (([a0_2] : List Int))).bind fun t172 => ((pdu_packed.f k l0_3).bind fun t175 => ((pdu_counted.f t172 t175).bind fun t178 => (some (t178, 0))))) else (if a0_0 = 23 then ((pdu_lay.f t146 (([a0_2, a0_4, (l0_3.length : Int)] : List Int))).bind fun t184 => ((pdu_lay.f ([] : List Int) l0_3).bind fun t187 => ((pdu_counted.f t184 t187).bind fun t190 => (some (t190, 0))))) else (if a0_0 = 16 then ((pdu_lay.f t146 (([a0_2] : List Int))).bind fun t196 => ((pdu_lay.f ([] : List Int) l0_3).bind fun t199 => ((pdu_counted.f t196 t199).bind fun t202 => (some (t202, 0))))) else ((pdu_lay.f t146 (([a0_2] : List Int))).bind fun t208 => (some (t208, 0)))))))))) = some (r1, r2) := by first | (rw [hy143]; with_reducible exact H) | (have H2_ := (Option.bind_some _ _).symm.trans H; rw [hy143]; with_reducible exact H2_) | (have H2_ := (Option.bind_some _ _).symm.trans H; with_reducible exact H2_) | with_reducible exact H | (rw [hy143]; exact H) | exact H
  have Ny143 := Aside0.mk hy143
  clear hy143
  replace H := Option.bind_eq_some_iff.mp H
  obtain ⟨t146, A40, H⟩ := H
  replace H : (if a0_0 = 5 then (if 0 < (l0_3.length : Int) then ((pdu_lay.f t146 (([wrap64 (65280 * (rd l0_3 0))] : List Int))).bind fun t153 => (some (t153, 0))) else (none)) else (if a0_0 = 6 then (if 0 < (l0_3.length : Int) then ((pdu_lay.f t146 (([rd l0_3 0] : List Int))).bind fun t160 => (some (t160, 0))) else (none)) else (if a0_0 = 22 then ((pdu_lay.f t146 (([a0_5, a0_6] : List Int))).bind fun t166 => (some (t166, 0))) else (if a0_0 = 15 then ((pdu_lay.f t146 (([a0_2] : List Int))).bind fun t172 => ((pdu_packed.f k l0_3).bind fun t175 => ((pdu_counted.f t172 t175).bind fun t178 => (some (t178, 0))))) else (if a0_0 = 23 then ((pdu_lay.f t146 (([a0_2, a0_4, (l0_3.length : Int)] : List Int))).bind fun t184 => ((pdu_lay.f ([] : List Int) l0_3).bind fun t187 => ((pdu_counted.f t184 t187).bind fun t190 => (some (t190, 0))))) else (if a0_0 = 16 then ((pdu_lay.f t146 (([a0_2] : List Int))).bind fun t196 => ((pdu_lay.f ([] : List Int) l0_3).bind fun t199 => ((pdu_counted.f t196 t199).bind fun t202 => (some (t202, 0))))) else ((pdu_lay.f t146 (([a0_2] : List Int))).bind fun t208 => (some (t208, 0))))))))) = some (r1, r2) := H
  have A4 := Aside0.mk A40
  clear A40
  by_cases c5 : a0_0 = 5
  ·rw [if_pos c5] at H
   have c5b0 : (a0_0 == 5) = true := beq_iff_eq.mpr c5
   have c5b1 : (a0_0 != 5) = false := bne_eq_false_iff_eq.mpr c5
   clear c5
   by_cases c6 : 0 < (l0_3.length : Int)
   ·rw [if_pos c6] at H
    have c6b0 : decide (0 < (l0_3.length : Int)) = true := decide_eq_true c6
    have c6b1 : decide (0 < l0_3.length) = true := decide_eq_true (by omega)
    clear c6
    obtain ⟨y150, hy150⟩ : ∃ y_ : List Int, y_ = (([wrap64 (65280 * (rd l0_3 0))] : List Int)) := ⟨_, rfl⟩
    replace H : ((pdu_lay.f t146 y150).bind fun t153 => (some (t153, 0))) = some (r1, r2) := by first | (rw [hy150]; with_reducible exact H) | (have H2_ := (Option.bind_some _ _).symm.trans H; rw [hy150]; with_reducible exact H2_) | (have H2_ := (Option.bind_some _ _).symm.trans H; with_reducible exact H2_) | with_reducible exact H | (rw [hy150]; exact H) | exact H
    have Ny150 := Aside0.mk hy150
    clear hy150
    replace H := Option.bind_eq_some_iff.mp H
    obtain ⟨t153, A70, H⟩ := H
    replace H : (some (t153, 0)) = some (r1, r2) := H
    have A7 := Aside0.mk A70
    clear A70
    simp only [Option.some.injEq, Prod.mk.injEq] at H
    obtain ⟨rfl, rfl⟩ := H
    go_enter Try.func30, Try.ntmps30
    go_wp2_with (first | ((with_reducible refine gate_dst (N := 1) rfl ?_); refine bx_ (N := 1) (cs := #[.int .i64 a0_0, .int .i64 a0_1, .int .i64 a0_2, .slice A0_3 l0_3.length c0_3, .int .i64 a0_4, .int .i64 a0_5, .int .i64 a0_6]) (t := 24) ?_; intro gb138 hg w8 hbox hb; have n0_ := Aside0.mk (below_step (bl0_ HB) hb); have n1_ := Aside0.mk (hbox); have n2_ := Aside0.mk ((by rw [hg]; exact (below_size (bl0_ HB)) : w.heap.size ≤ gb138)); have n3_ := Aside0.mk ((by rw [hg]; exact (below_size (bl0_ HB)) : w.heap.size ≤ gb138)); clear HB; have HB := n0_; have BK138 := n1_; have GW138 := n2_; have GE138 := n3_; clear n0_ n1_ n2_ n3_; clear hb hbox hg; refine cz7_ BK138.out ?_; intro hcz9_0 hcz9_1 hcz9_2 hcz9_3 hcz9_4 hcz9_5 hcz9_6 hfz9_0 hfz9_1 hfz9_2 hfz9_3 hfz9_4 hfz9_5 hfz9_6) | ((with_reducible refine gate_callee (f := 29) rfl ?_); refine goesL_ (some 7) rfl rfl Try.func29 (by kernel_rfl) rfl #[.agg #[.int .i64 a0_0, .int .i64 a0_1, .int .i64 a0_2, .slice A0_3 l0_3.length c0_3, .int .i64 a0_4, .int .i64 a0_5, .int .i64 a0_6]] rfl ar_ ?_; (with_reducible refine (pdu_Check.calls k a0_0 a0_1 a0_2 _ _ l0_3 a0_4 a0_5 a0_6 t139 _ ?side1 ?side2 A2.out).mono ?_); (case side1 => exact sc_ (Kd.C_below HR0_3.out HB.out)); (case side2 => exact HC0_3.out); rintro e w10 ⟨rfl, hb⟩; refine ⟨_, rfl, ?_⟩; have n0_ := Aside0.mk (blk_below (g := gb138) (bk_ BK138) hb); have n1_ := Aside0.mk (below_step (bl1_ HB GE138) hb); clear BK138; clear HB; have BK138 := n0_; have HB := n1_; clear n0_ n1_; (try clear hb); (try clear hb2); (try clear hk); (try clear hi); refine cz7_ BK138.out ?_; intro hcz11_0 hcz11_1 hcz11_2 hcz11_3 hcz11_4 hcz11_5 hcz11_6 hfz11_0 hfz11_1 hfz11_2 hfz11_3 hfz11_4 hfz11_5 hfz11_6) | ((with_reducible refine gate_dst (N := 14) rfl ?_); refine Kd.R_lit (Kd.int .u8) _ 5 ?hg (N := 14) ?hd (xs := ([(a0_0) % 256] : List Int)) (inner := [.int .u8 ((a0_0) % 256)]) (ok := fun _ => True) (okp := fun _ => True) ?hr ?hp (fun _ hk => hk) trivial (Below.refl _ _) (Nat.le_refl _) (by simp) ?_; (case hd => rfl); (case hg => rfl); (case hr => first | (go_simp; done) | (go_simp; rfl)); (case hp => exact (Reps.one (show Kd.M (Kd.int .u8) _ _ _ ((a0_0) % 256) [.int .u8 ((a0_0) % 256)] from rfl) (Reps.none _ _))); intro v141 w12 ho13 hb hg_ hnew_; clear hg_ hnew_; (first | rw [← Ny140.out] at ho13 | (simp only [Int.reduceToNat] at ho13; rw [← Ny140.out] at ho13)); have n0_ := Aside0.mk (Kd.R_lower ho13 (below_size (bl1_ HB GE138))); have n1_ := Aside0.mk (blk_below (g := gb138) (bk_ BK138) hb); have n2_ := Aside0.mk (below_step (bl1_ HB GE138) hb); clear BK138; clear HB; have HO142 := n0_; have BK138 := n1_; have HB := n2_; clear n0_ n1_ n2_; clear hb ho13; refine cz7_ BK138.out ?_; intro hcz14_0 hcz14_1 hcz14_2 hcz14_3 hcz14_4 hcz14_5 hcz14_6 hfz14_0 hfz14_1 hfz14_2 hfz14_3 hfz14_4 hfz14_5 hfz14_6) | ((with_reducible refine gate_dst (N := 17) rfl ?_); refine Kd.R_lit (Kd.int .i64) _ 3 ?hg (N := 17) ?hd (xs := ([a0_1] : List Int)) (inner := [.int .i64 a0_1]) (ok := fun _ => True) (okp := fun _ => True) ?hr ?hp (fun _ hk => hk) trivial (Below.refl _ _) (Nat.le_refl _) (by simp) ?_; (case hd => rfl); (case hg => rfl); (case hr => first | (go_simp; done) | (go_simp; rfl)); (case hp => exact (Reps.one (show Kd.M (Kd.int .i64) _ _ _ a0_1 [.int .i64 a0_1] from rfl) (Reps.none _ _))); intro v144 w15 ho16 hb hg_ hnew_; clear hg_ hnew_; (first | rw [← Ny143.out] at ho16 | (simp only [Int.reduceToNat] at ho16; rw [← Ny143.out] at ho16)); have n0_ := Aside0.mk (Kd.R_below (kr_ HO142) hb); have n1_ := Aside0.mk (Kd.R_lower ho16 (below_size (bl1_ HB GE138))); have n2_ := Aside0.mk (blk_below (g := gb138) (bk_ BK138) hb); have n3_ := Aside0.mk (below_step (bl1_ HB GE138) hb); clear HO142; clear BK138; clear HB; have HO142 := n0_; have HO145 := n1_; have BK138 := n2_; have HB := n3_; clear n0_ n1_ n2_ n3_; clear hb ho16; obtain ⟨Ao17, co17, eo17⟩ := Kd.R_slice HO142.out; subst eo17; obtain ⟨Ao18, co18, eo18⟩ := Kd.R_slice HO145.out; subst eo18) | ((with_reducible refine gate_callee (f := 53) rfl ?_); refine goesL_ (some 18) rfl rfl Try.func53 (by kernel_rfl) rfl #[.slice Ao17 y140.length co17, .slice Ao18 y143.length co18] rfl ar_ ?_; (with_reducible refine (pdu_lay.calls _ _ y140 _ _ y143 t146 _ ?side1 ?side2 ?side3 ?side4 A4.out).mono ?_); (case side1 => exact sc_ (Kd.R_reads' HO142.out).2.2); (case side2 => exact (Kd.R_reads' HO142.out).2.1); (case side3 => exact sc_ (Kd.R_reads' HO145.out).2.2); (case side4 => exact (Kd.R_reads' HO145.out).2.1); rintro e w19 ⟨v147, rfl, ho0, hb⟩; refine ⟨_, rfl, ?_⟩; have n0_ := Aside0.mk (Kd.R_elder' (kr_ HO142) (Kd.R_base ho0) hb); have n1_ := Aside0.mk (Kd.R_below (kr_ HO145) hb); have n2_ := Aside0.mk (Kd.R_lower (Kd.R_new' ho0 (Kd.R_lt (kr_ HO142))) (below_size (bl1_ HB GE138))); have n3_ := Aside0.mk (blk_below (g := gb138) (bk_ BK138) hb); have n4_ := Aside0.mk (below_step (bl1_ HB GE138) hb); clear HO142; clear HO145; clear BK138; clear HB; have HO142 := n0_; have HO145 := n1_; have HO148 := n2_; have BK138 := n3_; have HB := n4_; clear n0_ n1_ n2_ n3_ n4_; (try clear hb); (try clear hb2); (try clear hk); (try clear hi); (try clear ho0); refine cz7_ BK138.out ?_; intro hcz20_0 hcz20_1 hcz20_2 hcz20_3 hcz20_4 hcz20_5 hcz20_6 hfz20_0 hfz20_1 hfz20_2 hfz20_3 hfz20_4 hfz20_5 hfz20_6; have p149 : 0 ≤ (0 : Int) := (by omega); have q149 : 0 < (l0_3.length : Int) := of_decide_eq_true (by first | (with_reducible assumption) | assumption); obtain ⟨ad149, e149, hx149_0⟩ := Kd.at_int HR0_3.out 0 p149 q149; cases e149; have qi149 : (0 < l0_3.length) = True := eq_true (by omega); (try rw [show ((0 : Int)).toNat = 0 from rfl] at hx149_0); (try rw [Addr.add_zero'] at hx149_0); replace hx149_0 := (HB.out.cell (World.block_lt_of_cell? w _ hx149_0)).trans hx149_0; replace p149 := eq_true p149; replace q149 := eq_true q149) | ((with_reducible refine gate_dst (N := 34) rfl ?_); refine Kd.R_lit (Kd.int .i64) _ 3 ?hg (N := 34) ?hd (xs := ([wrap64 (65280 * (rd l0_3 0))] : List Int)) (inner := [.int .i64 (wrap64 (65280 * (rd l0_3 0)))]) (ok := fun _ => True) (okp := fun _ => True) ?hr ?hp (fun _ hk => hk) trivial (Below.refl _ _) (Nat.le_refl _) (by simp) ?_; (case hd => rfl); (case hg => rfl); (case hr => first | (go_simp; done) | (go_simp; rfl)); (case hp => exact (Reps.one (show Kd.M (Kd.int .i64) _ _ _ (wrap64 (65280 * (rd l0_3 0))) [.int .i64 (wrap64 (65280 * (rd l0_3 0)))] from rfl) (Reps.none _ _))); intro v151 w21 ho22 hb hg_ hnew_; clear hg_ hnew_; (first | rw [← Ny150.out] at ho22 | (simp only [Int.reduceToNat] at ho22; rw [← Ny150.out] at ho22)); have n0_ := Aside0.mk (Kd.R_below (kr_ HO142) hb); have n1_ := Aside0.mk (Kd.R_elder' (kr_ HO145) (Kd.R_base ho22) hb); have n2_ := Aside0.mk (Kd.R_below (kr_ HO148) hb); have n3_ := Aside0.mk (Kd.R_lower (Kd.R_new' ho22 (Kd.R_lt (kr_ HO145))) (below_size (bl1_ HB GE138))); have n4_ := Aside0.mk (blk_below (g := gb138) (bk_ BK138) hb); have n5_ := Aside0.mk (below_step (bl1_ HB GE138) hb); clear HO142; clear HO145; clear HO148; clear BK138; clear HB; have HO142 := n0_; have HO145 := n1_; have HO148 := n2_; have HO152 := n3_; have BK138 := n4_; have HB := n5_; clear n0_ n1_ n2_ n3_ n4_ n5_; clear hb ho22; obtain ⟨Ao23, co23, eo23⟩ := Kd.R_slice HO148.out; subst eo23; obtain ⟨Ao24, co24, eo24⟩ := Kd.R_slice HO152.out; subst eo24) | ((with_reducible refine gate_callee (f := 53) rfl ?_); refine goesL_ (some 35) rfl rfl Try.func53 (by kernel_rfl) rfl #[.slice Ao23 t146.length co23, .slice Ao24 y150.length co24] rfl ar_ ?_; (with_reducible refine (pdu_lay.calls _ _ t146 _ _ y150 t153 _ ?side1 ?side2 ?side3 ?side4 A7.out).mono ?_); (case side1 => exact sc_ (Kd.R_reads' HO148.out).2.2); (case side2 => exact (Kd.R_reads' HO148.out).2.1); (case side3 => exact sc_ (Kd.R_reads' HO152.out).2.2); (case side4 => exact (Kd.R_reads' HO152.out).2.1); rintro e w25 ⟨v154, rfl, ho0, hb⟩; refine ⟨_, rfl, ?_⟩; have n0_ := Aside0.mk (Kd.R_elder' (kr_ HO142) (Kd.R_base ho0) hb); have n1_ := Aside0.mk (Kd.R_below (kr_ HO145) hb); have n2_ := Aside0.mk (Kd.R_elder' (kr_ HO148) (Kd.R_base ho0) hb); have n3_ := Aside0.mk (Kd.R_below (kr_ HO152) hb); have n4_ := Aside0.mk (Kd.R_lower (Kd.R_new' (Kd.R_new' ho0 (Kd.R_lt (kr_ HO142))) (Kd.R_lt (kr_ HO148))) (below_size (bl1_ HB GE138))); have n5_ := Aside0.mk (blk_below (g := gb138) (bk_ BK138) hb); have n6_ := Aside0.mk (below_step (bl1_ HB GE138) hb); clear HO142; clear HO145; clear HO148; clear HO152; clear BK138; clear HB; have HO142 := n0_; have HO145 := n1_; have HO148 := n2_; have HO152 := n3_; have HO155 := n4_; have BK138 := n5_; have HB := n6_; clear n0_ n1_ n2_ n3_ n4_ n5_ n6_; (try clear hb); (try clear hb2); (try clear hk); (try clear hi); (try clear ho0)))
    go_ret2
    exact ⟨_, er_, by (with_reducible repeat (first | apply Kd.R_alloc | apply Kd.R_drewN | apply Kd.R_drew)); exact Kd.R_mono HO155.out (fun _ hk => trivial), bl1_ HB GE138⟩
   ·rw [if_neg c6] at H
    exact absurd H (by simp)
  ·rw [if_neg c5] at H
   have c5b0 : (a0_0 == 5) = false := beq_eq_false_iff_ne.mpr c5
   have c5b1 : (a0_0 != 5) = true := bne_iff_ne.mpr c5
   by_cases c26 : a0_0 = 6
   ·rw [if_pos c26] at H
    have c26b0 : (a0_0 == 6) = true := beq_iff_eq.mpr c26
    have c26b1 : (a0_0 != 6) = false := bne_eq_false_iff_eq.mpr c26
    clear c26
    by_cases c27 : 0 < (l0_3.length : Int)
    ·rw [if_pos c27] at H
     have c27b0 : decide (0 < (l0_3.length : Int)) = true := decide_eq_true c27
     have c27b1 : decide (0 < l0_3.length) = true := decide_eq_true (by omega)
     clear c27
     obtain ⟨y157, hy157⟩ : ∃ y_ : List Int, y_ = (([rd l0_3 0] : List Int)) := ⟨_, rfl⟩
     replace H : ((pdu_lay.f t146 y157).bind fun t160 => (some (t160, 0))) = some (r1, r2) := by first | (rw [hy157]; with_reducible exact H) | (have H2_ := (Option.bind_some _ _).symm.trans H; rw [hy157]; with_reducible exact H2_) | (have H2_ := (Option.bind_some _ _).symm.trans H; with_reducible exact H2_) | with_reducible exact H | (rw [hy157]; exact H) | exact H
     have Ny157 := Aside0.mk hy157
     clear hy157
     replace H := Option.bind_eq_some_iff.mp H
     obtain ⟨t160, A280, H⟩ := H
     replace H : (some (t160, 0)) = some (r1, r2) := H
     have A28 := Aside0.mk A280
     clear A280
     simp only [Option.some.injEq, Prod.mk.injEq] at H
     obtain ⟨rfl, rfl⟩ := H
     go_enter Try.func30, Try.ntmps30
     go_wp2_with (first | ((with_reducible refine gate_dst (N := 1) rfl ?_); refine bx_ (N := 1) (cs := #[.int .i64 a0_0, .int .i64 a0_1, .int .i64 a0_2, .slice A0_3 l0_3.length c0_3, .int .i64 a0_4, .int .i64 a0_5, .int .i64 a0_6]) (t := 24) ?_; intro gb138 hg w29 hbox hb; have n0_ := Aside0.mk (below_step (bl0_ HB) hb); have n1_ := Aside0.mk (hbox); have n2_ := Aside0.mk ((by rw [hg]; exact (below_size (bl0_ HB)) : w.heap.size ≤ gb138)); have n3_ := Aside0.mk ((by rw [hg]; exact (below_size (bl0_ HB)) : w.heap.size ≤ gb138)); clear HB; have HB := n0_; have BK138 := n1_; have GW138 := n2_; have GE138 := n3_; clear n0_ n1_ n2_ n3_; clear hb hbox hg; refine cz7_ BK138.out ?_; intro hcz30_0 hcz30_1 hcz30_2 hcz30_3 hcz30_4 hcz30_5 hcz30_6 hfz30_0 hfz30_1 hfz30_2 hfz30_3 hfz30_4 hfz30_5 hfz30_6) | ((with_reducible refine gate_callee (f := 29) rfl ?_); refine goesL_ (some 7) rfl rfl Try.func29 (by kernel_rfl) rfl #[.agg #[.int .i64 a0_0, .int .i64 a0_1, .int .i64 a0_2, .slice A0_3 l0_3.length c0_3, .int .i64 a0_4, .int .i64 a0_5, .int .i64 a0_6]] rfl ar_ ?_; (with_reducible refine (pdu_Check.calls k a0_0 a0_1 a0_2 _ _ l0_3 a0_4 a0_5 a0_6 t139 _ ?side1 ?side2 A2.out).mono ?_); (case side1 => exact sc_ (Kd.C_below HR0_3.out HB.out)); (case side2 => exact HC0_3.out); rintro e w31 ⟨rfl, hb⟩; refine ⟨_, rfl, ?_⟩; have n0_ := Aside0.mk (blk_below (g := gb138) (bk_ BK138) hb); have n1_ := Aside0.mk (below_step (bl1_ HB GE138) hb); clear BK138; clear HB; have BK138 := n0_; have HB := n1_; clear n0_ n1_; (try clear hb); (try clear hb2); (try clear hk); (try clear hi); refine cz7_ BK138.out ?_; intro hcz32_0 hcz32_1 hcz32_2 hcz32_3 hcz32_4 hcz32_5 hcz32_6 hfz32_0 hfz32_1 hfz32_2 hfz32_3 hfz32_4 hfz32_5 hfz32_6) | ((with_reducible refine gate_dst (N := 14) rfl ?_); refine Kd.R_lit (Kd.int .u8) _ 5 ?hg (N := 14) ?hd (xs := ([(a0_0) % 256] : List Int)) (inner := [.int .u8 ((a0_0) % 256)]) (ok := fun _ => True) (okp := fun _ => True) ?hr ?hp (fun _ hk => hk) trivial (Below.refl _ _) (Nat.le_refl _) (by simp) ?_; (case hd => rfl); (case hg => rfl); (case hr => first | (go_simp; done) | (go_simp; rfl)); (case hp => exact (Reps.one (show Kd.M (Kd.int .u8) _ _ _ ((a0_0) % 256) [.int .u8 ((a0_0) % 256)] from rfl) (Reps.none _ _))); intro v141 w33 ho34 hb hg_ hnew_; clear hg_ hnew_; (first | rw [← Ny140.out] at ho34 | (simp only [Int.reduceToNat] at ho34; rw [← Ny140.out] at ho34)); have n0_ := Aside0.mk (Kd.R_lower ho34 (below_size (bl1_ HB GE138))); have n1_ := Aside0.mk (blk_below (g := gb138) (bk_ BK138) hb); have n2_ := Aside0.mk (below_step (bl1_ HB GE138) hb); clear BK138; clear HB; have HO142 := n0_; have BK138 := n1_; have HB := n2_; clear n0_ n1_ n2_; clear hb ho34; refine cz7_ BK138.out ?_; intro hcz35_0 hcz35_1 hcz35_2 hcz35_3 hcz35_4 hcz35_5 hcz35_6 hfz35_0 hfz35_1 hfz35_2 hfz35_3 hfz35_4 hfz35_5 hfz35_6) | ((with_reducible refine gate_dst (N := 17) rfl ?_); refine Kd.R_lit (Kd.int .i64) _ 3 ?hg (N := 17) ?hd (xs := ([a0_1] : List Int)) (inner := [.int .i64 a0_1]) (ok := fun _ => True) (okp := fun _ => True) ?hr ?hp (fun _ hk => hk) trivial (Below.refl _ _) (Nat.le_refl _) (by simp) ?_; (case hd => rfl); (case hg => rfl); (case hr => first | (go_simp; done) | (go_simp; rfl)); (case hp => exact (Reps.one (show Kd.M (Kd.int .i64) _ _ _ a0_1 [.int .i64 a0_1] from rfl) (Reps.none _ _))); intro v144 w36 ho37 hb hg_ hnew_; clear hg_ hnew_; (first | rw [← Ny143.out] at ho37 | (simp only [Int.reduceToNat] at ho37; rw [← Ny143.out] at ho37)); have n0_ := Aside0.mk (Kd.R_below (kr_ HO142) hb); have n1_ := Aside0.mk (Kd.R_lower ho37 (below_size (bl1_ HB GE138))); have n2_ := Aside0.mk (blk_below (g := gb138) (bk_ BK138) hb); have n3_ := Aside0.mk (below_step (bl1_ HB GE138) hb); clear HO142; clear BK138; clear HB; have HO142 := n0_; have HO145 := n1_; have BK138 := n2_; have HB := n3_; clear n0_ n1_ n2_ n3_; clear hb ho37; obtain ⟨Ao38, co38, eo38⟩ := Kd.R_slice HO142.out; subst eo38; obtain ⟨Ao39, co39, eo39⟩ := Kd.R_slice HO145.out; subst eo39) | ((with_reducible refine gate_callee (f := 53) rfl ?_); refine goesL_ (some 18) rfl rfl Try.func53 (by kernel_rfl) rfl #[.slice Ao38 y140.length co38, .slice Ao39 y143.length co39] rfl ar_ ?_; (with_reducible refine (pdu_lay.calls _ _ y140 _ _ y143 t146 _ ?side1 ?side2 ?side3 ?side4 A4.out).mono ?_); (case side1 => exact sc_ (Kd.R_reads' HO142.out).2.2); (case side2 => exact (Kd.R_reads' HO142.out).2.1); (case side3 => exact sc_ (Kd.R_reads' HO145.out).2.2); (case side4 => exact (Kd.R_reads' HO145.out).2.1); rintro e w40 ⟨v147, rfl, ho0, hb⟩; refine ⟨_, rfl, ?_⟩; have n0_ := Aside0.mk (Kd.R_elder' (kr_ HO142) (Kd.R_base ho0) hb); have n1_ := Aside0.mk (Kd.R_below (kr_ HO145) hb); have n2_ := Aside0.mk (Kd.R_lower (Kd.R_new' ho0 (Kd.R_lt (kr_ HO142))) (below_size (bl1_ HB GE138))); have n3_ := Aside0.mk (blk_below (g := gb138) (bk_ BK138) hb); have n4_ := Aside0.mk (below_step (bl1_ HB GE138) hb); clear HO142; clear HO145; clear BK138; clear HB; have HO142 := n0_; have HO145 := n1_; have HO148 := n2_; have BK138 := n3_; have HB := n4_; clear n0_ n1_ n2_ n3_ n4_; (try clear hb); (try clear hb2); (try clear hk); (try clear hi); (try clear ho0); refine cz7_ BK138.out ?_; intro hcz41_0 hcz41_1 hcz41_2 hcz41_3 hcz41_4 hcz41_5 hcz41_6 hfz41_0 hfz41_1 hfz41_2 hfz41_3 hfz41_4 hfz41_5 hfz41_6; have p156 : 0 ≤ (0 : Int) := (by omega); have q156 : 0 < (l0_3.length : Int) := of_decide_eq_true (by first | (with_reducible assumption) | assumption); obtain ⟨ad156, e156, hx156_0⟩ := Kd.at_int HR0_3.out 0 p156 q156; cases e156; have qi156 : (0 < l0_3.length) = True := eq_true (by omega); (try rw [show ((0 : Int)).toNat = 0 from rfl] at hx156_0); (try rw [Addr.add_zero'] at hx156_0); replace hx156_0 := (HB.out.cell (World.block_lt_of_cell? w _ hx156_0)).trans hx156_0; replace p156 := eq_true p156; replace q156 := eq_true q156) | ((with_reducible refine gate_dst (N := 43) rfl ?_); refine Kd.R_lit (Kd.int .i64) _ 3 ?hg (N := 43) ?hd (xs := ([rd l0_3 0] : List Int)) (inner := [.int .i64 (rd l0_3 0)]) (ok := fun _ => True) (okp := fun _ => True) ?hr ?hp (fun _ hk => hk) trivial (Below.refl _ _) (Nat.le_refl _) (by simp) ?_; (case hd => rfl); (case hg => rfl); (case hr => first | (go_simp; done) | (go_simp; rfl)); (case hp => exact (Reps.one (show Kd.M (Kd.int .i64) _ _ _ (rd l0_3 0) [.int .i64 (rd l0_3 0)] from rfl) (Reps.none _ _))); intro v158 w42 ho43 hb hg_ hnew_; clear hg_ hnew_; (first | rw [← Ny157.out] at ho43 | (simp only [Int.reduceToNat] at ho43; rw [← Ny157.out] at ho43)); have n0_ := Aside0.mk (Kd.R_below (kr_ HO142) hb); have n1_ := Aside0.mk (Kd.R_elder' (kr_ HO145) (Kd.R_base ho43) hb); have n2_ := Aside0.mk (Kd.R_below (kr_ HO148) hb); have n3_ := Aside0.mk (Kd.R_lower (Kd.R_new' ho43 (Kd.R_lt (kr_ HO145))) (below_size (bl1_ HB GE138))); have n4_ := Aside0.mk (blk_below (g := gb138) (bk_ BK138) hb); have n5_ := Aside0.mk (below_step (bl1_ HB GE138) hb); clear HO142; clear HO145; clear HO148; clear BK138; clear HB; have HO142 := n0_; have HO145 := n1_; have HO148 := n2_; have HO159 := n3_; have BK138 := n4_; have HB := n5_; clear n0_ n1_ n2_ n3_ n4_ n5_; clear hb ho43; obtain ⟨Ao44, co44, eo44⟩ := Kd.R_slice HO148.out; subst eo44; obtain ⟨Ao45, co45, eo45⟩ := Kd.R_slice HO159.out; subst eo45) | ((with_reducible refine gate_callee (f := 53) rfl ?_); refine goesL_ (some 44) rfl rfl Try.func53 (by kernel_rfl) rfl #[.slice Ao44 t146.length co44, .slice Ao45 y157.length co45] rfl ar_ ?_; (with_reducible refine (pdu_lay.calls _ _ t146 _ _ y157 t160 _ ?side1 ?side2 ?side3 ?side4 A28.out).mono ?_); (case side1 => exact sc_ (Kd.R_reads' HO148.out).2.2); (case side2 => exact (Kd.R_reads' HO148.out).2.1); (case side3 => exact sc_ (Kd.R_reads' HO159.out).2.2); (case side4 => exact (Kd.R_reads' HO159.out).2.1); rintro e w46 ⟨v161, rfl, ho0, hb⟩; refine ⟨_, rfl, ?_⟩; have n0_ := Aside0.mk (Kd.R_elder' (kr_ HO142) (Kd.R_base ho0) hb); have n1_ := Aside0.mk (Kd.R_below (kr_ HO145) hb); have n2_ := Aside0.mk (Kd.R_elder' (kr_ HO148) (Kd.R_base ho0) hb); have n3_ := Aside0.mk (Kd.R_below (kr_ HO159) hb); have n4_ := Aside0.mk (Kd.R_lower (Kd.R_new' (Kd.R_new' ho0 (Kd.R_lt (kr_ HO142))) (Kd.R_lt (kr_ HO148))) (below_size (bl1_ HB GE138))); have n5_ := Aside0.mk (blk_below (g := gb138) (bk_ BK138) hb); have n6_ := Aside0.mk (below_step (bl1_ HB GE138) hb); clear HO142; clear HO145; clear HO148; clear HO159; clear BK138; clear HB; have HO142 := n0_; have HO145 := n1_; have HO148 := n2_; have HO159 := n3_; have HO162 := n4_; have BK138 := n5_; have HB := n6_; clear n0_ n1_ n2_ n3_ n4_ n5_ n6_; (try clear hb); (try clear hb2); (try clear hk); (try clear hi); (try clear ho0)))
     go_ret2
     exact ⟨_, er_, by (with_reducible repeat (first | apply Kd.R_alloc | apply Kd.R_drewN | apply Kd.R_drew)); exact Kd.R_mono HO162.out (fun _ hk => trivial), bl1_ HB GE138⟩
    ·rw [if_neg c27] at H
     exact absurd H (by simp)
   ·rw [if_neg c26] at H
    have c26b0 : (a0_0 == 6) = false := beq_eq_false_iff_ne.mpr c26
    have c26b1 : (a0_0 != 6) = true := bne_iff_ne.mpr c26
    by_cases c47 : a0_0 = 22
    ·rw [if_pos c47] at H
     have c47b0 : (a0_0 == 22) = true := beq_iff_eq.mpr c47
     have c47b1 : (a0_0 != 22) = false := bne_eq_false_iff_eq.mpr c47
     clear c47
     obtain ⟨y163, hy163⟩ : ∃ y_ : List Int, y_ = (([a0_5, a0_6] : List Int)) := ⟨_, rfl⟩
     replace H : ((pdu_lay.f t146 y163).bind fun t166 => (some (t166, 0))) = some (r1, r2) := by first | (rw [hy163]; with_reducible exact H) | (have H2_ := (Option.bind_some _ _).symm.trans H; rw [hy163]; with_reducible exact H2_) | (have H2_ := (Option.bind_some _ _).symm.trans H; with_reducible exact H2_) | with_reducible exact H | (rw [hy163]; exact H) | exact H
     have Ny163 := Aside0.mk hy163
     clear hy163
     replace H := Option.bind_eq_some_iff.mp H
     obtain ⟨t166, A480, H⟩ := H
     replace H : (some (t166, 0)) = some (r1, r2) := H
     have A48 := Aside0.mk A480
     clear A480
     simp only [Option.some.injEq, Prod.mk.injEq] at H
     obtain ⟨rfl, rfl⟩ := H
     go_enter Try.func30, Try.ntmps30
     go_wp2_with (first | ((with_reducible refine gate_dst (N := 1) rfl ?_); refine bx_ (N := 1) (cs := #[.int .i64 a0_0, .int .i64 a0_1, .int .i64 a0_2, .slice A0_3 l0_3.length c0_3, .int .i64 a0_4, .int .i64 a0_5, .int .i64 a0_6]) (t := 24) ?_; intro gb138 hg w49 hbox hb; have n0_ := Aside0.mk (below_step (bl0_ HB) hb); have n1_ := Aside0.mk (hbox); have n2_ := Aside0.mk ((by rw [hg]; exact (below_size (bl0_ HB)) : w.heap.size ≤ gb138)); have n3_ := Aside0.mk ((by rw [hg]; exact (below_size (bl0_ HB)) : w.heap.size ≤ gb138)); clear HB; have HB := n0_; have BK138 := n1_; have GW138 := n2_; have GE138 := n3_; clear n0_ n1_ n2_ n3_; clear hb hbox hg; refine cz7_ BK138.out ?_; intro hcz50_0 hcz50_1 hcz50_2 hcz50_3 hcz50_4 hcz50_5 hcz50_6 hfz50_0 hfz50_1 hfz50_2 hfz50_3 hfz50_4 hfz50_5 hfz50_6) | ((with_reducible refine gate_callee (f := 29) rfl ?_); refine goesL_ (some 7) rfl rfl Try.func29 (by kernel_rfl) rfl #[.agg #[.int .i64 a0_0, .int .i64 a0_1, .int .i64 a0_2, .slice A0_3 l0_3.length c0_3, .int .i64 a0_4, .int .i64 a0_5, .int .i64 a0_6]] rfl ar_ ?_; (with_reducible refine (pdu_Check.calls k a0_0 a0_1 a0_2 _ _ l0_3 a0_4 a0_5 a0_6 t139 _ ?side1 ?side2 A2.out).mono ?_); (case side1 => exact sc_ (Kd.C_below HR0_3.out HB.out)); (case side2 => exact HC0_3.out); rintro e w51 ⟨rfl, hb⟩; refine ⟨_, rfl, ?_⟩; have n0_ := Aside0.mk (blk_below (g := gb138) (bk_ BK138) hb); have n1_ := Aside0.mk (below_step (bl1_ HB GE138) hb); clear BK138; clear HB; have BK138 := n0_; have HB := n1_; clear n0_ n1_; (try clear hb); (try clear hb2); (try clear hk); (try clear hi); refine cz7_ BK138.out ?_; intro hcz52_0 hcz52_1 hcz52_2 hcz52_3 hcz52_4 hcz52_5 hcz52_6 hfz52_0 hfz52_1 hfz52_2 hfz52_3 hfz52_4 hfz52_5 hfz52_6) | ((with_reducible refine gate_dst (N := 14) rfl ?_); refine Kd.R_lit (Kd.int .u8) _ 5 ?hg (N := 14) ?hd (xs := ([(a0_0) % 256] : List Int)) (inner := [.int .u8 ((a0_0) % 256)]) (ok := fun _ => True) (okp := fun _ => True) ?hr ?hp (fun _ hk => hk) trivial (Below.refl _ _) (Nat.le_refl _) (by simp) ?_; (case hd => rfl); (case hg => rfl); (case hr => first | (go_simp; done) | (go_simp; rfl)); (case hp => exact (Reps.one (show Kd.M (Kd.int .u8) _ _ _ ((a0_0) % 256) [.int .u8 ((a0_0) % 256)] from rfl) (Reps.none _ _))); intro v141 w53 ho54 hb hg_ hnew_; clear hg_ hnew_; (first | rw [← Ny140.out] at ho54 | (simp only [Int.reduceToNat] at ho54; rw [← Ny140.out] at ho54)); have n0_ := Aside0.mk (Kd.R_lower ho54 (below_size (bl1_ HB GE138))); have n1_ := Aside0.mk (blk_below (g := gb138) (bk_ BK138) hb); have n2_ := Aside0.mk (below_step (bl1_ HB GE138) hb); clear BK138; clear HB; have HO142 := n0_; have BK138 := n1_; have HB := n2_; clear n0_ n1_ n2_; clear hb ho54; refine cz7_ BK138.out ?_; intro hcz55_0 hcz55_1 hcz55_2 hcz55_3 hcz55_4 hcz55_5 hcz55_6 hfz55_0 hfz55_1 hfz55_2 hfz55_3 hfz55_4 hfz55_5 hfz55_6) | ((with_reducible refine gate_dst (N := 17) rfl ?_); refine Kd.R_lit (Kd.int .i64) _ 3 ?hg (N := 17) ?hd (xs := ([a0_1] : List Int)) (inner := [.int .i64 a0_1]) (ok := fun _ => True) (okp := fun _ => True) ?hr ?hp (fun _ hk => hk) trivial (Below.refl _ _) (Nat.le_refl _) (by simp) ?_; (case hd => rfl); (case hg => rfl); (case hr => first | (go_simp; done) | (go_simp; rfl)); (case hp => exact (Reps.one (show Kd.M (Kd.int .i64) _ _ _ a0_1 [.int .i64 a0_1] from rfl) (Reps.none _ _))); intro v144 w56 ho57 hb hg_ hnew_; clear hg_ hnew_; (first | rw [← Ny143.out] at ho57 | (simp only [Int.reduceToNat] at ho57; rw [← Ny143.out] at ho57)); have n0_ := Aside0.mk (Kd.R_below (kr_ HO142) hb); have n1_ := Aside0.mk (Kd.R_lower ho57 (below_size (bl1_ HB GE138))); have n2_ := Aside0.mk (blk_below (g := gb138) (bk_ BK138) hb); have n3_ := Aside0.mk (below_step (bl1_ HB GE138) hb); clear HO142; clear BK138; clear HB; have HO142 := n0_; have HO145 := n1_; have BK138 := n2_; have HB := n3_; clear n0_ n1_ n2_ n3_; clear hb ho57; obtain ⟨Ao58, co58, eo58⟩ := Kd.R_slice HO142.out; subst eo58; obtain ⟨Ao59, co59, eo59⟩ := Kd.R_slice HO145.out; subst eo59) | ((with_reducible refine gate_callee (f := 53) rfl ?_); refine goesL_ (some 18) rfl rfl Try.func53 (by kernel_rfl) rfl #[.slice Ao58 y140.length co58, .slice Ao59 y143.length co59] rfl ar_ ?_; (with_reducible refine (pdu_lay.calls _ _ y140 _ _ y143 t146 _ ?side1 ?side2 ?side3 ?side4 A4.out).mono ?_); (case side1 => exact sc_ (Kd.R_reads' HO142.out).2.2); (case side2 => exact (Kd.R_reads' HO142.out).2.1); (case side3 => exact sc_ (Kd.R_reads' HO145.out).2.2); (case side4 => exact (Kd.R_reads' HO145.out).2.1); rintro e w60 ⟨v147, rfl, ho0, hb⟩; refine ⟨_, rfl, ?_⟩; have n0_ := Aside0.mk (Kd.R_elder' (kr_ HO142) (Kd.R_base ho0) hb); have n1_ := Aside0.mk (Kd.R_below (kr_ HO145) hb); have n2_ := Aside0.mk (Kd.R_lower (Kd.R_new' ho0 (Kd.R_lt (kr_ HO142))) (below_size (bl1_ HB GE138))); have n3_ := Aside0.mk (blk_below (g := gb138) (bk_ BK138) hb); have n4_ := Aside0.mk (below_step (bl1_ HB GE138) hb); clear HO142; clear HO145; clear BK138; clear HB; have HO142 := n0_; have HO145 := n1_; have HO148 := n2_; have BK138 := n3_; have HB := n4_; clear n0_ n1_ n2_ n3_ n4_; (try clear hb); (try clear hb2); (try clear hk); (try clear hi); (try clear ho0); refine cz7_ BK138.out ?_; intro hcz61_0 hcz61_1 hcz61_2 hcz61_3 hcz61_4 hcz61_5 hcz61_6 hfz61_0 hfz61_1 hfz61_2 hfz61_3 hfz61_4 hfz61_5 hfz61_6) | ((with_reducible refine gate_dst (N := 52) rfl ?_); refine Kd.R_lit (Kd.int .i64) _ 3 ?hg (N := 52) ?hd (xs := ([a0_5, a0_6] : List Int)) (inner := [.int .i64 a0_5, .int .i64 a0_6]) (ok := fun _ => True) (okp := fun _ => True) ?hr ?hp (fun _ hk => hk) trivial (Below.refl _ _) (Nat.le_refl _) (by simp) ?_; (case hd => rfl); (case hg => rfl); (case hr => first | (go_simp; done) | (go_simp; rfl)); (case hp => exact (Reps.one (show Kd.M (Kd.int .i64) _ _ _ a0_5 [.int .i64 a0_5] from rfl) (Reps.one (show Kd.M (Kd.int .i64) _ _ _ a0_6 [.int .i64 a0_6] from rfl) (Reps.none _ _)))); intro v164 w62 ho63 hb hg_ hnew_; clear hg_ hnew_; (first | rw [← Ny163.out] at ho63 | (simp only [Int.reduceToNat] at ho63; rw [← Ny163.out] at ho63)); have n0_ := Aside0.mk (Kd.R_below (kr_ HO142) hb); have n1_ := Aside0.mk (Kd.R_elder' (kr_ HO145) (Kd.R_base ho63) hb); have n2_ := Aside0.mk (Kd.R_below (kr_ HO148) hb); have n3_ := Aside0.mk (Kd.R_lower (Kd.R_new' ho63 (Kd.R_lt (kr_ HO145))) (below_size (bl1_ HB GE138))); have n4_ := Aside0.mk (blk_below (g := gb138) (bk_ BK138) hb); have n5_ := Aside0.mk (below_step (bl1_ HB GE138) hb); clear HO142; clear HO145; clear HO148; clear BK138; clear HB; have HO142 := n0_; have HO145 := n1_; have HO148 := n2_; have HO165 := n3_; have BK138 := n4_; have HB := n5_; clear n0_ n1_ n2_ n3_ n4_ n5_; clear hb ho63; obtain ⟨Ao64, co64, eo64⟩ := Kd.R_slice HO148.out; subst eo64; obtain ⟨Ao65, co65, eo65⟩ := Kd.R_slice HO165.out; subst eo65) | ((with_reducible refine gate_callee (f := 53) rfl ?_); refine goesL_ (some 53) rfl rfl Try.func53 (by kernel_rfl) rfl #[.slice Ao64 t146.length co64, .slice Ao65 y163.length co65] rfl ar_ ?_; (with_reducible refine (pdu_lay.calls _ _ t146 _ _ y163 t166 _ ?side1 ?side2 ?side3 ?side4 A48.out).mono ?_); (case side1 => exact sc_ (Kd.R_reads' HO148.out).2.2); (case side2 => exact (Kd.R_reads' HO148.out).2.1); (case side3 => exact sc_ (Kd.R_reads' HO165.out).2.2); (case side4 => exact (Kd.R_reads' HO165.out).2.1); rintro e w66 ⟨v167, rfl, ho0, hb⟩; refine ⟨_, rfl, ?_⟩; have n0_ := Aside0.mk (Kd.R_elder' (kr_ HO142) (Kd.R_base ho0) hb); have n1_ := Aside0.mk (Kd.R_below (kr_ HO145) hb); have n2_ := Aside0.mk (Kd.R_elder' (kr_ HO148) (Kd.R_base ho0) hb); have n3_ := Aside0.mk (Kd.R_below (kr_ HO165) hb); have n4_ := Aside0.mk (Kd.R_lower (Kd.R_new' (Kd.R_new' ho0 (Kd.R_lt (kr_ HO142))) (Kd.R_lt (kr_ HO148))) (below_size (bl1_ HB GE138))); have n5_ := Aside0.mk (blk_below (g := gb138) (bk_ BK138) hb); have n6_ := Aside0.mk (below_step (bl1_ HB GE138) hb); clear HO142; clear HO145; clear HO148; clear HO165; clear BK138; clear HB; have HO142 := n0_; have HO145 := n1_; have HO148 := n2_; have HO165 := n3_; have HO168 := n4_; have BK138 := n5_; have HB := n6_; clear n0_ n1_ n2_ n3_ n4_ n5_ n6_; (try clear hb); (try clear hb2); (try clear hk); (try clear hi); (try clear ho0)))
     go_ret2
     exact ⟨_, er_, by (with_reducible repeat (first | apply Kd.R_alloc | apply Kd.R_drewN | apply Kd.R_drew)); exact Kd.R_mono HO168.out (fun _ hk => trivial), bl1_ HB GE138⟩
    ·rw [if_neg c47] at H
     have c47b0 : (a0_0 == 22) = false := beq_eq_false_iff_ne.mpr c47
     have c47b1 : (a0_0 != 22) = true := bne_iff_ne.mpr c47
     by_cases c67 : a0_0 = 15
     ·rw [if_pos c67] at H
      have c67b0 : (a0_0 == 15) = true := beq_iff_eq.mpr c67
      have c67b1 : (a0_0 != 15) = false := bne_eq_false_iff_eq.mpr c67
      clear c67
      obtain ⟨y169, hy169⟩ : ∃ y_ : List Int, y_ = (([a0_2] : List Int)) := ⟨_, rfl⟩
      replace H : ((pdu_lay.f t146 y169).bind fun t172 => ((pdu_packed.f k l0_3).bind fun t175 => ((pdu_counted.f t172 t175).bind fun t178 => (some (t178, 0))))) = some (r1, r2) := by first | (rw [hy169]; with_reducible exact H) | (have H2_ := (Option.bind_some _ _).symm.trans H; rw [hy169]; with_reducible exact H2_) | (have H2_ := (Option.bind_some _ _).symm.trans H; with_reducible exact H2_) | with_reducible exact H | (rw [hy169]; exact H) | exact H
      have Ny169 := Aside0.mk hy169
      clear hy169
      replace H := Option.bind_eq_some_iff.mp H
      obtain ⟨t172, A680, H⟩ := H
      replace H : ((pdu_packed.f k l0_3).bind fun t175 => ((pdu_counted.f t172 t175).bind fun t178 => (some (t178, 0)))) = some (r1, r2) := H
      have A68 := Aside0.mk A680
      clear A680
      replace H := Option.bind_eq_some_iff.mp H
      obtain ⟨t175, A690, H⟩ := H
      replace H : ((pdu_counted.f t172 t175).bind fun t178 => (some (t178, 0))) = some (r1, r2) := H
      have A69 := Aside0.mk A690
      clear A690
      replace H := Option.bind_eq_some_iff.mp H
      obtain ⟨t178, A700, H⟩ := H
      replace H : (some (t178, 0)) = some (r1, r2) := H
      have A70 := Aside0.mk A700
      clear A700
      simp only [Option.some.injEq, Prod.mk.injEq] at H
      obtain ⟨rfl, rfl⟩ := H
      go_enter Try.func30, Try.ntmps30
      try go_wp2_with (first | ((with_reducible refine gate_dst (N := 1) rfl ?_); refine bx_ (N := 1) (cs := #[.int .i64 a0_0, .int .i64 a0_1, .int .i64 a0_2, .slice A0_3 l0_3.length c0_3, .int .i64 a0_4, .int .i64 a0_5, .int .i64 a0_6]) (t := 24) ?_; intro gb138 hg w71 hbox hb; have n0_ := Aside0.mk (below_step (bl0_ HB) hb); have n1_ := Aside0.mk (hbox); have n2_ := Aside0.mk ((by rw [hg]; exact (below_size (bl0_ HB)) : w.heap.size ≤ gb138)); have n3_ := Aside0.mk ((by rw [hg]; exact (below_size (bl0_ HB)) : w.heap.size ≤ gb138)); clear HB; have HB := n0_; have BK138 := n1_; have GW138 := n2_; have GE138 := n3_; clear n0_ n1_ n2_ n3_; clear hb hbox hg; refine cz7_ BK138.out ?_; intro hcz72_0 hcz72_1 hcz72_2 hcz72_3 hcz72_4 hcz72_5 hcz72_6 hfz72_0 hfz72_1 hfz72_2 hfz72_3 hfz72_4 hfz72_5 hfz72_6) | ((with_reducible refine gate_callee (f := 29) rfl ?_); refine goesL_ (some 7) rfl rfl Try.func29 (by kernel_rfl) rfl #[.agg #[.int .i64 a0_0, .int .i64 a0_1, .int .i64 a0_2, .slice A0_3 l0_3.length c0_3, .int .i64 a0_4, .int .i64 a0_5, .int .i64 a0_6]] rfl ar_ ?_; (with_reducible refine (pdu_Check.calls k a0_0 a0_1 a0_2 _ _ l0_3 a0_4 a0_5 a0_6 t139 _ ?side1 ?side2 A2.out).mono ?_); (case side1 => exact sc_ (Kd.C_below HR0_3.out HB.out)); (case side2 => exact HC0_3.out); rintro e w73 ⟨rfl, hb⟩; refine ⟨_, rfl, ?_⟩; have n0_ := Aside0.mk (blk_below (g := gb138) (bk_ BK138) hb); have n1_ := Aside0.mk (below_step (bl1_ HB GE138) hb); clear BK138; clear HB; have BK138 := n0_; have HB := n1_; clear n0_ n1_; (try clear hb); (try clear hb2); (try clear hk); (try clear hi); refine cz7_ BK138.out ?_; intro hcz74_0 hcz74_1 hcz74_2 hcz74_3 hcz74_4 hcz74_5 hcz74_6 hfz74_0 hfz74_1 hfz74_2 hfz74_3 hfz74_4 hfz74_5 hfz74_6) | ((with_reducible refine gate_dst (N := 14) rfl ?_); refine Kd.R_lit (Kd.int .u8) _ 5 ?hg (N := 14) ?hd (xs := ([(a0_0) % 256] : List Int)) (inner := [.int .u8 ((a0_0) % 256)]) (ok := fun _ => True) (okp := fun _ => True) ?hr ?hp (fun _ hk => hk) trivial (Below.refl _ _) (Nat.le_refl _) (by simp) ?_; (case hd => rfl); (case hg => rfl); (case hr => first | (go_simp; done) | (go_simp; rfl)); (case hp => exact (Reps.one (show Kd.M (Kd.int .u8) _ _ _ ((a0_0) % 256) [.int .u8 ((a0_0) % 256)] from rfl) (Reps.none _ _))); intro v141 w75 ho76 hb hg_ hnew_; clear hg_ hnew_; (first | rw [← Ny140.out] at ho76 | (simp only [Int.reduceToNat] at ho76; rw [← Ny140.out] at ho76)); have n0_ := Aside0.mk (Kd.R_lower ho76 (below_size (bl1_ HB GE138))); have n1_ := Aside0.mk (blk_below (g := gb138) (bk_ BK138) hb); have n2_ := Aside0.mk (below_step (bl1_ HB GE138) hb); clear BK138; clear HB; have HO142 := n0_; have BK138 := n1_; have HB := n2_; clear n0_ n1_ n2_; clear hb ho76; refine cz7_ BK138.out ?_; intro hcz77_0 hcz77_1 hcz77_2 hcz77_3 hcz77_4 hcz77_5 hcz77_6 hfz77_0 hfz77_1 hfz77_2 hfz77_3 hfz77_4 hfz77_5 hfz77_6) | ((with_reducible refine gate_dst (N := 17) rfl ?_); refine Kd.R_lit (Kd.int .i64) _ 3 ?hg (N := 17) ?hd (xs := ([a0_1] : List Int)) (inner := [.int .i64 a0_1]) (ok := fun _ => True) (okp := fun _ => True) ?hr ?hp (fun _ hk => hk) trivial (Below.refl _ _) (Nat.le_refl _) (by simp) ?_; (case hd => rfl); (case hg => rfl); (case hr => first | (go_simp; done) | (go_simp; rfl)); (case hp => exact (Reps.one (show Kd.M (Kd.int .i64) _ _ _ a0_1 [.int .i64 a0_1] from rfl) (Reps.none _ _))); intro v144 w78 ho79 hb hg_ hnew_; clear hg_ hnew_; (first | rw [← Ny143.out] at ho79 | (simp only [Int.reduceToNat] at ho79; rw [← Ny143.out] at ho79)); have n0_ := Aside0.mk (Kd.R_below (kr_ HO142) hb); have n1_ := Aside0.mk (Kd.R_lower ho79 (below_size (bl1_ HB GE138))); have n2_ := Aside0.mk (blk_below (g := gb138) (bk_ BK138) hb); have n3_ := Aside0.mk (below_step (bl1_ HB GE138) hb); clear HO142; clear BK138; clear HB; have HO142 := n0_; have HO145 := n1_; have BK138 := n2_; have HB := n3_; clear n0_ n1_ n2_ n3_; clear hb ho79; obtain ⟨Ao80, co80, eo80⟩ := Kd.R_slice HO142.out; subst eo80; obtain ⟨Ao81, co81, eo81⟩ := Kd.R_slice HO145.out; subst eo81) | ((with_reducible refine gate_callee (f := 53) rfl ?_); refine goesL_ (some 18) rfl rfl Try.func53 (by kernel_rfl) rfl #[.slice Ao80 y140.length co80, .slice Ao81 y143.length co81] rfl ar_ ?_; (with_reducible refine (pdu_lay.calls _ _ y140 _ _ y143 t146 _ ?side1 ?side2 ?side3 ?side4 A4.out).mono ?_); (case side1 => exact sc_ (Kd.R_reads' HO142.out).2.2); (case side2 => exact (Kd.R_reads' HO142.out).2.1); (case side3 => exact sc_ (Kd.R_reads' HO145.out).2.2); (case side4 => exact (Kd.R_reads' HO145.out).2.1); rintro e w82 ⟨v147, rfl, ho0, hb⟩; refine ⟨_, rfl, ?_⟩; have n0_ := Aside0.mk (Kd.R_elder' (kr_ HO142) (Kd.R_base ho0) hb); have n1_ := Aside0.mk (Kd.R_below (kr_ HO145) hb); have n2_ := Aside0.mk (Kd.R_lower (Kd.R_new' ho0 (Kd.R_lt (kr_ HO142))) (below_size (bl1_ HB GE138))); have n3_ := Aside0.mk (blk_below (g := gb138) (bk_ BK138) hb); have n4_ := Aside0.mk (below_step (bl1_ HB GE138) hb); clear HO142; clear HO145; clear BK138; clear HB; have HO142 := n0_; have HO145 := n1_; have HO148 := n2_; have BK138 := n3_; have HB := n4_; clear n0_ n1_ n2_ n3_ n4_; (try clear hb); (try clear hb2); (try clear hk); (try clear hi); (try clear ho0); refine cz7_ BK138.out ?_; intro hcz83_0 hcz83_1 hcz83_2 hcz83_3 hcz83_4 hcz83_5 hcz83_6 hfz83_0 hfz83_1 hfz83_2 hfz83_3 hfz83_4 hfz83_5 hfz83_6))
      have n0_ := Aside0.mk (Kd.R_drew HO142.out)
      have n1_ := Aside0.mk (Kd.R_drew HO145.out)
      have n2_ := Aside0.mk (Kd.R_drew HO148.out)
      have n3_ := Aside0.mk (blk_drew BK138.out)
      have n4_ := Aside0.mk (below_drew1 HB.out)
      clear HO142
      clear HO145
      clear HO148
      clear BK138
      clear HB
      have HO142 := n0_
      have HO145 := n1_
      have HO148 := n2_
      have BK138 := n3_
      have HB := n4_
      clear n0_ n1_ n2_ n3_ n4_
      refine start_ (n := 10) (S := fun w' => w'.cell? ⟨gb138, 0, none⟩ = some (.int .i64 a0_0) ∧ w'.cell? ⟨gb138, 1, none⟩ = some (.int .i64 a0_1) ∧ w'.cell? ⟨gb138, 2, none⟩ = some (.int .i64 a0_2) ∧ w'.cell? ⟨gb138, 3, none⟩ = some (.slice A0_3 l0_3.length c0_3) ∧ w'.cell? ⟨gb138, 4, none⟩ = some (.int .i64 a0_4) ∧ w'.cell? ⟨gb138, 5, none⟩ = some (.int .i64 a0_5) ∧ w'.cell? ⟨gb138, 6, none⟩ = some (.int .i64 a0_6)) (ds := []) #[false, false, false, false, false, false, false, false, false, false] (by kernel_rfl) rfl rfl ⟨(blk_cell BK138.out 0).trans rfl, (blk_cell BK138.out 1).trans rfl, (blk_cell BK138.out 2).trans rfl, (blk_cell BK138.out 3).trans rfl, (blk_cell BK138.out 4).trans rfl, (blk_cell BK138.out 5).trans rfl, (blk_cell BK138.out 6).trans rfl⟩ (fun hHeld => ?_); refine with_tabW pdu_Bytes.tab14 pdu_Bytes.bits14 (fun HT_ HW_ => ?_)
      generalize w82.drew = w84 at HO142 HO145 HO148 BK138 HB hHeld ⊢
      refine pure_ (i := 0) (N := some 56) (v := ?_) (a' := ?_) #[true, false, false, false, false, false, false, false, false, false] rfl rfl (any_of HT_.out (by kernel_rfl)) (fun _ _ _ h => h) (Or.inl ⟨by rfl, ?_⟩) ?_ ?_
      rotate_left
      ·intro w'
       go_simp
       with_reducible rfl
      rotate_left
      ·simp only [Act.put, List.setIfInBounds_toArray, List.set_cons_zero, List.set_cons_succ, i64_w, i32_w]
       rfl
      refine pure_ (i := 1) (N := some 57) (v := ?_) (a' := ?_) #[true, true, false, false, false, false, false, false, false, false] rfl rfl (any_of HT_.out (by kernel_rfl)) (fun _ _ _ h => h) (Or.inl ⟨by rfl, ?_⟩) ?_ ?_
      rotate_left
      ·intro w'
       go_simp
       with_reducible rfl
      rotate_left
      ·simp only [Act.put, List.setIfInBounds_toArray, List.set_cons_zero, List.set_cons_succ, i64_w, i32_w]
       rfl
      refine pure_ (i := 5) (N := some 61) (v := ?_) (a' := ?_) #[true, true, false, false, false, true, false, false, false, false] rfl rfl (any_of HT_.out (by kernel_rfl)) (fun _ _ _ h => h) (Or.inl ⟨by rfl, ?_⟩) ?_ ?_
      rotate_left
      ·intro w'
       go_simp
       with_reducible rfl
      rotate_left
      ·simp only [Act.put, List.setIfInBounds_toArray, List.set_cons_zero, List.set_cons_succ, i64_w, i32_w]
       rfl
      refine take_ (i := 2) (N := some 58) (v := ?_) (a' := ?_) #[true, true, true, false, false, true, false, false, false, false] rfl rfl (take_ofW HT_.out HW_.out (by kernel_rfl)) (fun _ _ _ h => h) (Or.inl ⟨by rfl, ?_⟩) hHeld ?_ ?_
      rotate_left
      ·rintro w' ⟨s0, s1, s2, s3, s4, s5, s6⟩
       go_simp
       with_reducible rfl
      rotate_left
      ·simp only [Act.put, List.setIfInBounds_toArray, List.set_cons_zero, List.set_cons_succ, i64_w, i32_w]
       rfl
      refine take_ (i := 6) (N := some 62) (v := ?_) (a' := ?_) #[true, true, true, false, false, true, true, false, false, false] rfl rfl (take_ofW HT_.out HW_.out (by kernel_rfl)) (fun _ _ _ h => h) (Or.inl ⟨by rfl, ?_⟩) hHeld ?_ ?_
      rotate_left
      ·rintro w' ⟨s0, s1, s2, s3, s4, s5, s6⟩
       go_simp
       with_reducible rfl
      rotate_left
      ·simp only [Act.put, List.setIfInBounds_toArray, List.set_cons_zero, List.set_cons_succ, i64_w, i32_w]
       rfl
      refine one_ (i := 3) (N := some 59) #[true, true, true, true, false, true, true, false, false, false] rfl rfl (one_of HT_.out (by kernel_rfl)) (by decide) (fun K hK => ?_)
      refine Kd.R_lit_step (Kd.int .i64) _ 3 ?hg (N := 59) ?hd (xs := ([a0_2] : List Int)) (inner := [.int .i64 a0_2]) (ok := fun _ => True) (okp := fun _ => True) ?hr ?hp (fun _ hk => hk) trivial (Below.refl _ _) (Nat.le_refl _) (by simp) ?_; (case hd => rfl); (case hg => rfl); (case hr => first | (go_simp; done) | (go_simp; rfl)); (case hp => exact (Reps.one (show Kd.M (Kd.int .i64) _ _ _ a0_2 [.int .i64 a0_2] from rfl) (Reps.none _ _)))
      intro v170 w85 ho86 hb hg_ hnew_
      clear hg_ hnew_
      (first | rw [← Ny169.out] at ho86 | (simp only [Int.reduceToNat] at ho86; rw [← Ny169.out] at ho86))
      have n0_ := Aside0.mk (Kd.R_below (kr_ HO142) hb)
      have n1_ := Aside0.mk (Kd.R_elder' (kr_ HO145) (Kd.R_base ho86) hb)
      have n2_ := Aside0.mk (Kd.R_below (kr_ HO148) hb)
      have n3_ := Aside0.mk (Kd.R_lower (Kd.R_new' ho86 (Kd.R_lt (kr_ HO145))) (below_size (bl1_ HB GE138)))
      have n4_ := Aside0.mk (blk_below (g := gb138) (bk_ BK138) hb)
      have n5_ := Aside0.mk (below_step (bl1_ HB GE138) hb)
      clear HO142
      clear HO145
      clear HO148
      clear BK138
      clear HB
      have HO142 := n0_
      have HO145 := n1_
      have HO148 := n2_
      have HO171 := n3_
      have BK138 := n4_
      have HB := n5_
      clear n0_ n1_ n2_ n3_ n4_ n5_
      clear hb ho86
      obtain ⟨Ao87, co87, eo87⟩ := Kd.R_slice HO148.out
      (first | subst eo87 | (injection eo87 with f1_ f2_ f3_; have f4_ := f1_.symm; have f5_ := f3_.symm; clear f1_ f2_ f3_; subst f4_; subst f5_))
      obtain ⟨Ao88, co88, eo88⟩ := Kd.R_slice HO171.out
      (first | subst eo88 | (injection eo88 with f1_ f2_ f3_; have f4_ := f1_.symm; have f5_ := f3_.symm; clear f1_ f2_ f3_; subst f4_; subst f5_))
      refine hK.out _ _ ⟨(blk_cell BK138.out 0).trans rfl, (blk_cell BK138.out 1).trans rfl, (blk_cell BK138.out 2).trans rfl, (blk_cell BK138.out 3).trans rfl, (blk_cell BK138.out 4).trans rfl, (blk_cell BK138.out 5).trans rfl, (blk_cell BK138.out 6).trans rfl⟩ (fun hHeld => ?_)
      clear hK K
      refine norm_ (a' := ?_) ?_ ?_
      rotate_left
      ·show Act.put _ (some 59) _ = _
       simp only [Act.put, List.setIfInBounds_toArray, List.set_cons_zero, List.set_cons_succ, i64_w, i32_w]
       rfl
      refine one_ (i := 4) (N := some 60) #[true, true, true, true, true, true, true, false, false, false] rfl rfl (one_of HT_.out (by kernel_rfl)) (by decide) (fun K hK => ?_)
      refine goes_ Try.func53 (by kernel_rfl) rfl #[.slice Ao87 t146.length co87, .slice Ao88 y169.length co88] (by rfl) rfl rfl ar_ ?_
      with_reducible refine (pdu_lay.calls _ _ t146 _ _ y169 t172 _ ?side1 ?side2 ?side3 ?side4 A68.out).mono ?_
      (case side1 => exact sc_ (Kd.R_reads' HO148.out).2.2)
      (case side2 => exact (Kd.R_reads' HO148.out).2.1)
      (case side3 => exact sc_ (Kd.R_reads' HO171.out).2.2)
      (case side4 => exact (Kd.R_reads' HO171.out).2.1)
      rintro e w89 ⟨v173, rfl, ho0, hb⟩
      refine ⟨_, rfl, ?_⟩
      have n0_ := Aside0.mk (Kd.R_elder' (kr_ HO142) (Kd.R_base ho0) hb)
      have n1_ := Aside0.mk (Kd.R_below (kr_ HO145) hb)
      have n2_ := Aside0.mk (Kd.R_elder' (kr_ HO148) (Kd.R_base ho0) hb)
      have n3_ := Aside0.mk (Kd.R_below (kr_ HO171) hb)
      have n4_ := Aside0.mk (Kd.R_lower (Kd.R_new' (Kd.R_new' ho0 (Kd.R_lt (kr_ HO142))) (Kd.R_lt (kr_ HO148))) (below_size (bl1_ HB GE138)))
      have n5_ := Aside0.mk (blk_below (g := gb138) (bk_ BK138) hb)
      have n6_ := Aside0.mk (below_step (bl1_ HB GE138) hb)
      clear HO142
      clear HO145
      clear HO148
      clear HO171
      clear BK138
      clear HB
      have HO142 := n0_
      have HO145 := n1_
      have HO148 := n2_
      have HO171 := n3_
      have HO174 := n4_
      have BK138 := n5_
      have HB := n6_
      clear n0_ n1_ n2_ n3_ n4_ n5_ n6_
      (try clear hb)
      (try clear hb2)
      (try clear hk)
      (try clear hi)
      (try clear ho0)
      refine hK.out _ _ ⟨(blk_cell BK138.out 0).trans rfl, (blk_cell BK138.out 1).trans rfl, (blk_cell BK138.out 2).trans rfl, (blk_cell BK138.out 3).trans rfl, (blk_cell BK138.out 4).trans rfl, (blk_cell BK138.out 5).trans rfl, (blk_cell BK138.out 6).trans rfl⟩ (fun hHeld => ?_)
      clear hK K
      refine norm_ (a' := ?_) ?_ ?_
      rotate_left
      ·show Act.put _ (some 60) _ = _
       simp only [Act.put, List.setIfInBounds_toArray, List.set_cons_zero, List.set_cons_succ, i64_w, i32_w]
       rfl
      refine one_ (i := 7) (N := some 63) #[true, true, true, true, true, true, true, true, false, false] rfl rfl (one_of HT_.out (by kernel_rfl)) (by decide) (fun K hK => ?_)
      refine goes_ Try.func55 (by kernel_rfl) rfl #[.slice A0_3 l0_3.length c0_3] (by rfl) rfl rfl ar_ ?_
      with_reducible refine (pdu_packed.calls k _ _ l0_3 t175 _ ?side1 ?side2 A69.out).mono ?_
      (case side1 => exact sc_ (Kd.C_below HR0_3.out HB.out))
      (case side2 => exact HC0_3.out)
      rintro e w90 ⟨v176, rfl, ho0, hb⟩
      refine ⟨_, rfl, ?_⟩
      have n0_ := Aside0.mk (Kd.R_elder' (kr_ HO142) (Kd.R_base ho0) hb)
      have n1_ := Aside0.mk (Kd.R_below (kr_ HO145) hb)
      have n2_ := Aside0.mk (Kd.R_elder' (kr_ HO148) (Kd.R_base ho0) hb)
      have n3_ := Aside0.mk (Kd.R_below (kr_ HO171) hb)
      have n4_ := Aside0.mk (Kd.R_elder' (kr_ HO174) (Kd.R_base ho0) hb)
      have n5_ := Aside0.mk (Kd.R_lower (Kd.R_new' (Kd.R_new' (Kd.R_new' ho0 (Kd.R_lt (kr_ HO142))) (Kd.R_lt (kr_ HO148))) (Kd.R_lt (kr_ HO174))) (below_size (bl1_ HB GE138)))
      have n6_ := Aside0.mk (blk_below (g := gb138) (bk_ BK138) hb)
      have n7_ := Aside0.mk (below_step (bl1_ HB GE138) hb)
      clear HO142
      clear HO145
      clear HO148
      clear HO171
      clear HO174
      clear BK138
      clear HB
      have HO142 := n0_
      have HO145 := n1_
      have HO148 := n2_
      have HO171 := n3_
      have HO174 := n4_
      have HO177 := n5_
      have BK138 := n6_
      have HB := n7_
      clear n0_ n1_ n2_ n3_ n4_ n5_ n6_ n7_
      (try clear hb)
      (try clear hb2)
      (try clear hk)
      (try clear hi)
      (try clear ho0)
      obtain ⟨Ao91, co91, eo91⟩ := Kd.R_slice HO174.out
      (first | subst eo91 | (injection eo91 with f1_ f2_ f3_; have f4_ := f1_.symm; have f5_ := f3_.symm; clear f1_ f2_ f3_; subst f4_; subst f5_))
      obtain ⟨Ao92, co92, eo92⟩ := Kd.R_slice HO177.out
      (first | subst eo92 | (injection eo92 with f1_ f2_ f3_; have f4_ := f1_.symm; have f5_ := f3_.symm; clear f1_ f2_ f3_; subst f4_; subst f5_))
      refine hK.out _ _ ⟨(blk_cell BK138.out 0).trans rfl, (blk_cell BK138.out 1).trans rfl, (blk_cell BK138.out 2).trans rfl, (blk_cell BK138.out 3).trans rfl, (blk_cell BK138.out 4).trans rfl, (blk_cell BK138.out 5).trans rfl, (blk_cell BK138.out 6).trans rfl⟩ (fun hHeld => ?_)
      clear hK K
      refine norm_ (a' := ?_) ?_ ?_
      rotate_left
      ·show Act.put _ (some 63) _ = _
       simp only [Act.put, List.setIfInBounds_toArray, List.set_cons_zero, List.set_cons_succ, i64_w, i32_w]
       rfl
      refine one_ (i := 8) (N := some 64) #[true, true, true, true, true, true, true, true, true, false] rfl rfl (one_of HT_.out (by kernel_rfl)) (by decide) (fun K hK => ?_)
      refine goes_ Try.func54 (by kernel_rfl) rfl #[.slice Ao91 t172.length co91, .slice Ao92 t175.length co92] (by rfl) rfl rfl ar_ ?_
      with_reducible refine (pdu_counted.calls (fun k_ => some k_ = (.slice Ao91 t172.length co91 : Value).ownBlock) (.slice Ao91 t172.length co91) t172 _ _ t175 t178 w _ ?side1 ?side2 ?side3 ?side4 A70.out).mono ?_
      (case side1 => repeat (first | (with_reducible first | exact HB.out | apply below_alloc | apply pw_below_drewN | apply below_drew1 | refine below_set ?_ GE138.out) | exact HB.out))
      (case side2 => exact Kd.R_tight rfl HO174.out)
      (case side3 => exact Kd.C_kept_own (HO177.out) (fun k_ hk_ hs_ => (hk_.2) hs_))
      (case side4 => exact (Kd.R_reads' HO177.out).2.1)
      rintro e w93 ⟨v179, rfl, ho0, hb, hkp⟩
      refine ⟨_, rfl, ?_⟩
      have n0_ := Aside0.mk (blk_kept (bk_ BK138) hkp (fun hs_ => (fun e_ => (Kd.R_ne HO174.out BK138.out (by decide)) e_) hs_))
      have n1_ := Aside0.mk (Kd.R_mono (ok' := fun k_ => some k_ ≠ (.slice Ao87 t146.length co87 : Value).ownBlock ∧ some k_ ≠ (.slice Ao92 t175.length co92 : Value).ownBlock ∧ some k_ ≠ (v179 : Value).ownBlock) (Kd.R_keptB (HO142.out) hkp (fun k_ hk_ hs_ => (hk_.1.2) hs_)) (fun k_ hk_ => ⟨hk_.1.1.1.2, hk_.1.2, fun e_ => Or.elim (ho0.1 k_ e_.symm) (fun hs_ => hk_.2.1 hs_) (fun hn_ => Nat.not_le.2 hk_.2.2 hn_)⟩))
      have n2_ := Aside0.mk (Kd.R_mono (ok' := fun k_ => some k_ ≠ (.slice Ao88 y169.length co88 : Value).ownBlock) (Kd.R_keptB ((Kd.R_apart' HO145.out (Kd.R_typed HO174.out) (by decide))) hkp (fun k_ hk_ hs_ => (hk_.2) hs_)) (fun k_ hk_ => hk_.1.1.2))
      have n3_ := Aside0.mk (Kd.R_mono (ok' := fun k_ => some k_ ≠ (.slice Ao80 y140.length co80 : Value).ownBlock ∧ some k_ ≠ (.slice Ao92 t175.length co92 : Value).ownBlock ∧ some k_ ≠ (v179 : Value).ownBlock) (Kd.R_keptB (HO148.out) hkp (fun k_ hk_ hs_ => (hk_.1.2) hs_)) (fun k_ hk_ => ⟨hk_.1.1.1.2, hk_.1.2, fun e_ => Or.elim (ho0.1 k_ e_.symm) (fun hs_ => hk_.2.1 hs_) (fun hn_ => Nat.not_le.2 hk_.2.2 hn_)⟩))
      have n4_ := Aside0.mk (Kd.R_mono (ok' := fun k_ => some k_ ≠ (.slice Ao81 y143.length co81 : Value).ownBlock) (Kd.R_keptB ((Kd.R_apart' HO171.out (Kd.R_typed HO174.out) (by decide))) hkp (fun k_ hk_ hs_ => (hk_.2) hs_)) (fun k_ hk_ => hk_.1.1.2))
      have n5_ := Aside0.mk (Kd.R_mono (ok' := fun k_ => some k_ ≠ (.slice Ao80 y140.length co80 : Value).ownBlock ∧ some k_ ≠ (.slice Ao87 t146.length co87 : Value).ownBlock ∧ some k_ ≠ (v179 : Value).ownBlock) (Kd.R_keptB (HO177.out) hkp (fun k_ hk_ hs_ => (hk_.2) hs_)) (fun k_ hk_ => ⟨hk_.1.1.1.2, hk_.1.1.2, fun e_ => Or.elim (ho0.1 k_ e_.symm) (fun hs_ => hk_.2.1 hs_) (fun hn_ => Nat.not_le.2 hk_.2.2 hn_)⟩))
      have n6_ := Aside0.mk (Kd.R_mono (ok' := fun k_ => some k_ ≠ (.slice Ao80 y140.length co80 : Value).ownBlock ∧ some k_ ≠ (.slice Ao87 t146.length co87 : Value).ownBlock ∧ some k_ ≠ (.slice Ao92 t175.length co92 : Value).ownBlock) ho0 (fun k_ hk_ => ⟨Or.elim hk_ (fun hs_ => fun e_ => (((HO142.out).1 k_ e_.symm).1.2) hs_) (fun hn_ => (Kd.fresh' (Kd.R_lt (kr_ HO142)) k_ hn_)), Or.elim hk_ (fun hs_ => fun e_ => (((HO148.out).1 k_ e_.symm).1.2) hs_) (fun hn_ => (Kd.fresh' (Kd.R_lt (kr_ HO148)) k_ hn_)), Or.elim hk_ (fun hs_ => fun e_ => (((HO177.out).1 k_ e_.symm).2) hs_) (fun hn_ => (Kd.fresh' (Kd.R_lt (kr_ HO177)) k_ hn_))⟩))
      have n7_ := Aside0.mk (hb)
      clear BK138
      clear HO142
      clear HO145
      clear HO148
      clear HO171
      clear HO177
      clear HB
      clear HO174
      have BK138 := n0_
      have HO142 := n1_
      have HO145 := n2_
      have HO148 := n3_
      have HO171 := n4_
      have HO177 := n5_
      have HO180 := n6_
      have HB := n7_
      clear n0_ n1_ n2_ n3_ n4_ n5_ n6_ n7_
      (try clear hb)
      (try clear hkp)
      (try clear ho0)
      refine hK.out _ _ ⟨(blk_cell BK138.out 0).trans rfl, (blk_cell BK138.out 1).trans rfl, (blk_cell BK138.out 2).trans rfl, (blk_cell BK138.out 3).trans rfl, (blk_cell BK138.out 4).trans rfl, (blk_cell BK138.out 5).trans rfl, (blk_cell BK138.out 6).trans rfl⟩ (fun hHeld => ?_)
      clear hK K
      refine norm_ (a' := ?_) ?_ ?_
      rotate_left
      ·show Act.put _ (some 64) _ = _
       simp only [Act.put, List.setIfInBounds_toArray, List.set_cons_zero, List.set_cons_succ, i64_w, i32_w]
       rfl
      refine pure_ (i := 9) (N := some 5) (v := ?_) (a' := ?_) #[true, true, true, true, true, true, true, true, true, true] rfl rfl (any_of HT_.out (by kernel_rfl)) (fun _ _ _ h => h) (Or.inl ⟨by rfl, ?_⟩) ?_ ?_
      rotate_left
      ·intro w'
       go_simp
       with_reducible rfl
      rotate_left
      ·simp only [Act.put, List.setIfInBounds_toArray, List.set_cons_zero, List.set_cons_succ, i64_w, i32_w]
       rfl
      refine done_ (done_of HT_.out (by kernel_rfl)) ?_
      try go_wp2
      go_ret2
      exact ⟨_, er_, by (with_reducible repeat (first | apply Kd.R_alloc | apply Kd.R_drewN | apply Kd.R_drew)); exact Kd.R_mono HO180.out (fun _ hk => trivial), bl1_ HB GE138⟩
     ·rw [if_neg c67] at H
      have c67b0 : (a0_0 == 15) = false := beq_eq_false_iff_ne.mpr c67
      have c67b1 : (a0_0 != 15) = true := bne_iff_ne.mpr c67
      by_cases c94 : a0_0 = 23
      ·rw [if_pos c94] at H
       have c94b0 : (a0_0 == 23) = true := beq_iff_eq.mpr c94
       have c94b1 : (a0_0 != 23) = false := bne_eq_false_iff_eq.mpr c94
       clear c94
       obtain ⟨y181, hy181⟩ : ∃ y_ : List Int, y_ = (([a0_2, a0_4, (l0_3.length : Int)] : List Int)) := ⟨_, rfl⟩
       replace H : ((pdu_lay.f t146 y181).bind fun t184 => ((pdu_lay.f ([] : List Int) l0_3).bind fun t187 => ((pdu_counted.f t184 t187).bind fun t190 => (some (t190, 0))))) = some (r1, r2) := by first | (rw [hy181]; with_reducible exact H) | (have H2_ := (Option.bind_some _ _).symm.trans H; rw [hy181]; with_reducible exact H2_) | (have H2_ := (Option.bind_some _ _).symm.trans H; with_reducible exact H2_) | with_reducible exact H | (rw [hy181]; exact H) | exact H
       have Ny181 := Aside0.mk hy181
       clear hy181
       replace H := Option.bind_eq_some_iff.mp H
       obtain ⟨t184, A950, H⟩ := H
       replace H : ((pdu_lay.f ([] : List Int) l0_3).bind fun t187 => ((pdu_counted.f t184 t187).bind fun t190 => (some (t190, 0)))) = some (r1, r2) := H
       have A95 := Aside0.mk A950
       clear A950
       replace H := Option.bind_eq_some_iff.mp H
       obtain ⟨t187, A960, H⟩ := H
       replace H : ((pdu_counted.f t184 t187).bind fun t190 => (some (t190, 0))) = some (r1, r2) := H
       have A96 := Aside0.mk A960
       clear A960
       replace H := Option.bind_eq_some_iff.mp H
       obtain ⟨t190, A970, H⟩ := H
       replace H : (some (t190, 0)) = some (r1, r2) := H
       have A97 := Aside0.mk A970
       clear A970
       simp only [Option.some.injEq, Prod.mk.injEq] at H
       obtain ⟨rfl, rfl⟩ := H
       go_enter Try.func30, Try.ntmps30
       go_wp2_with (first | ((with_reducible refine gate_dst (N := 1) rfl ?_); refine bx_ (N := 1) (cs := #[.int .i64 a0_0, .int .i64 a0_1, .int .i64 a0_2, .slice A0_3 l0_3.length c0_3, .int .i64 a0_4, .int .i64 a0_5, .int .i64 a0_6]) (t := 24) ?_; intro gb138 hg w98 hbox hb; have n0_ := Aside0.mk (below_step (bl0_ HB) hb); have n1_ := Aside0.mk (hbox); have n2_ := Aside0.mk ((by rw [hg]; exact (below_size (bl0_ HB)) : w.heap.size ≤ gb138)); have n3_ := Aside0.mk ((by rw [hg]; exact (below_size (bl0_ HB)) : w.heap.size ≤ gb138)); clear HB; have HB := n0_; have BK138 := n1_; have GW138 := n2_; have GE138 := n3_; clear n0_ n1_ n2_ n3_; clear hb hbox hg; refine cz7_ BK138.out ?_; intro hcz99_0 hcz99_1 hcz99_2 hcz99_3 hcz99_4 hcz99_5 hcz99_6 hfz99_0 hfz99_1 hfz99_2 hfz99_3 hfz99_4 hfz99_5 hfz99_6) | ((with_reducible refine gate_callee (f := 29) rfl ?_); refine goesL_ (some 7) rfl rfl Try.func29 (by kernel_rfl) rfl #[.agg #[.int .i64 a0_0, .int .i64 a0_1, .int .i64 a0_2, .slice A0_3 l0_3.length c0_3, .int .i64 a0_4, .int .i64 a0_5, .int .i64 a0_6]] rfl ar_ ?_; (with_reducible refine (pdu_Check.calls k a0_0 a0_1 a0_2 _ _ l0_3 a0_4 a0_5 a0_6 t139 _ ?side1 ?side2 A2.out).mono ?_); (case side1 => exact sc_ (Kd.C_below HR0_3.out HB.out)); (case side2 => exact HC0_3.out); rintro e w100 ⟨rfl, hb⟩; refine ⟨_, rfl, ?_⟩; have n0_ := Aside0.mk (blk_below (g := gb138) (bk_ BK138) hb); have n1_ := Aside0.mk (below_step (bl1_ HB GE138) hb); clear BK138; clear HB; have BK138 := n0_; have HB := n1_; clear n0_ n1_; (try clear hb); (try clear hb2); (try clear hk); (try clear hi); refine cz7_ BK138.out ?_; intro hcz101_0 hcz101_1 hcz101_2 hcz101_3 hcz101_4 hcz101_5 hcz101_6 hfz101_0 hfz101_1 hfz101_2 hfz101_3 hfz101_4 hfz101_5 hfz101_6) | ((with_reducible refine gate_dst (N := 14) rfl ?_); refine Kd.R_lit (Kd.int .u8) _ 5 ?hg (N := 14) ?hd (xs := ([(a0_0) % 256] : List Int)) (inner := [.int .u8 ((a0_0) % 256)]) (ok := fun _ => True) (okp := fun _ => True) ?hr ?hp (fun _ hk => hk) trivial (Below.refl _ _) (Nat.le_refl _) (by simp) ?_; (case hd => rfl); (case hg => rfl); (case hr => first | (go_simp; done) | (go_simp; rfl)); (case hp => exact (Reps.one (show Kd.M (Kd.int .u8) _ _ _ ((a0_0) % 256) [.int .u8 ((a0_0) % 256)] from rfl) (Reps.none _ _))); intro v141 w102 ho103 hb hg_ hnew_; clear hg_ hnew_; (first | rw [← Ny140.out] at ho103 | (simp only [Int.reduceToNat] at ho103; rw [← Ny140.out] at ho103)); have n0_ := Aside0.mk (Kd.R_lower ho103 (below_size (bl1_ HB GE138))); have n1_ := Aside0.mk (blk_below (g := gb138) (bk_ BK138) hb); have n2_ := Aside0.mk (below_step (bl1_ HB GE138) hb); clear BK138; clear HB; have HO142 := n0_; have BK138 := n1_; have HB := n2_; clear n0_ n1_ n2_; clear hb ho103; refine cz7_ BK138.out ?_; intro hcz104_0 hcz104_1 hcz104_2 hcz104_3 hcz104_4 hcz104_5 hcz104_6 hfz104_0 hfz104_1 hfz104_2 hfz104_3 hfz104_4 hfz104_5 hfz104_6) | ((with_reducible refine gate_dst (N := 17) rfl ?_); refine Kd.R_lit (Kd.int .i64) _ 3 ?hg (N := 17) ?hd (xs := ([a0_1] : List Int)) (inner := [.int .i64 a0_1]) (ok := fun _ => True) (okp := fun _ => True) ?hr ?hp (fun _ hk => hk) trivial (Below.refl _ _) (Nat.le_refl _) (by simp) ?_; (case hd => rfl); (case hg => rfl); (case hr => first | (go_simp; done) | (go_simp; rfl)); (case hp => exact (Reps.one (show Kd.M (Kd.int .i64) _ _ _ a0_1 [.int .i64 a0_1] from rfl) (Reps.none _ _))); intro v144 w105 ho106 hb hg_ hnew_; clear hg_ hnew_; (first | rw [← Ny143.out] at ho106 | (simp only [Int.reduceToNat] at ho106; rw [← Ny143.out] at ho106)); have n0_ := Aside0.mk (Kd.R_below (kr_ HO142) hb); have n1_ := Aside0.mk (Kd.R_lower ho106 (below_size (bl1_ HB GE138))); have n2_ := Aside0.mk (blk_below (g := gb138) (bk_ BK138) hb); have n3_ := Aside0.mk (below_step (bl1_ HB GE138) hb); clear HO142; clear BK138; clear HB; have HO142 := n0_; have HO145 := n1_; have BK138 := n2_; have HB := n3_; clear n0_ n1_ n2_ n3_; clear hb ho106; obtain ⟨Ao107, co107, eo107⟩ := Kd.R_slice HO142.out; subst eo107; obtain ⟨Ao108, co108, eo108⟩ := Kd.R_slice HO145.out; subst eo108) | ((with_reducible refine gate_callee (f := 53) rfl ?_); refine goesL_ (some 18) rfl rfl Try.func53 (by kernel_rfl) rfl #[.slice Ao107 y140.length co107, .slice Ao108 y143.length co108] rfl ar_ ?_; (with_reducible refine (pdu_lay.calls _ _ y140 _ _ y143 t146 _ ?side1 ?side2 ?side3 ?side4 A4.out).mono ?_); (case side1 => exact sc_ (Kd.R_reads' HO142.out).2.2); (case side2 => exact (Kd.R_reads' HO142.out).2.1); (case side3 => exact sc_ (Kd.R_reads' HO145.out).2.2); (case side4 => exact (Kd.R_reads' HO145.out).2.1); rintro e w109 ⟨v147, rfl, ho0, hb⟩; refine ⟨_, rfl, ?_⟩; have n0_ := Aside0.mk (Kd.R_elder' (kr_ HO142) (Kd.R_base ho0) hb); have n1_ := Aside0.mk (Kd.R_below (kr_ HO145) hb); have n2_ := Aside0.mk (Kd.R_lower (Kd.R_new' ho0 (Kd.R_lt (kr_ HO142))) (below_size (bl1_ HB GE138))); have n3_ := Aside0.mk (blk_below (g := gb138) (bk_ BK138) hb); have n4_ := Aside0.mk (below_step (bl1_ HB GE138) hb); clear HO142; clear HO145; clear BK138; clear HB; have HO142 := n0_; have HO145 := n1_; have HO148 := n2_; have BK138 := n3_; have HB := n4_; clear n0_ n1_ n2_ n3_ n4_; (try clear hb); (try clear hb2); (try clear hk); (try clear hi); (try clear ho0); refine cz7_ BK138.out ?_; intro hcz110_0 hcz110_1 hcz110_2 hcz110_3 hcz110_4 hcz110_5 hcz110_6 hfz110_0 hfz110_1 hfz110_2 hfz110_3 hfz110_4 hfz110_5 hfz110_6) | ((with_reducible refine gate_dst (N := 75) rfl ?_); refine Kd.R_lit (Kd.int .i64) _ 3 ?hg (N := 75) ?hd (xs := ([a0_2, a0_4, (l0_3.length : Int)] : List Int)) (inner := [.int .i64 a0_2, .int .i64 a0_4, .int .i64 (l0_3.length : Int)]) (ok := fun _ => True) (okp := fun _ => True) ?hr ?hp (fun _ hk => hk) trivial (Below.refl _ _) (Nat.le_refl _) (by simp) ?_; (case hd => rfl); (case hg => rfl); (case hr => first | (go_simp; done) | (go_simp; rfl)); (case hp => exact (Reps.one (show Kd.M (Kd.int .i64) _ _ _ a0_2 [.int .i64 a0_2] from rfl) (Reps.one (show Kd.M (Kd.int .i64) _ _ _ a0_4 [.int .i64 a0_4] from rfl) (Reps.one (show Kd.M (Kd.int .i64) _ _ _ (l0_3.length : Int) [.int .i64 (l0_3.length : Int)] from rfl) (Reps.none _ _))))); intro v182 w111 ho112 hb hg_ hnew_; clear hg_ hnew_; (first | rw [← Ny181.out] at ho112 | (simp only [Int.reduceToNat] at ho112; rw [← Ny181.out] at ho112)); have n0_ := Aside0.mk (Kd.R_below (kr_ HO142) hb); have n1_ := Aside0.mk (Kd.R_elder' (kr_ HO145) (Kd.R_base ho112) hb); have n2_ := Aside0.mk (Kd.R_below (kr_ HO148) hb); have n3_ := Aside0.mk (Kd.R_lower (Kd.R_new' ho112 (Kd.R_lt (kr_ HO145))) (below_size (bl1_ HB GE138))); have n4_ := Aside0.mk (blk_below (g := gb138) (bk_ BK138) hb); have n5_ := Aside0.mk (below_step (bl1_ HB GE138) hb); clear HO142; clear HO145; clear HO148; clear BK138; clear HB; have HO142 := n0_; have HO145 := n1_; have HO148 := n2_; have HO183 := n3_; have BK138 := n4_; have HB := n5_; clear n0_ n1_ n2_ n3_ n4_ n5_; clear hb ho112; obtain ⟨Ao113, co113, eo113⟩ := Kd.R_slice HO148.out; subst eo113; obtain ⟨Ao114, co114, eo114⟩ := Kd.R_slice HO183.out; subst eo114) | ((with_reducible refine gate_callee (f := 53) rfl ?_); refine goesL_ (some 76) rfl rfl Try.func53 (by kernel_rfl) rfl #[.slice Ao113 t146.length co113, .slice Ao114 y181.length co114] rfl ar_ ?_; (with_reducible refine (pdu_lay.calls _ _ t146 _ _ y181 t184 _ ?side1 ?side2 ?side3 ?side4 A95.out).mono ?_); (case side1 => exact sc_ (Kd.R_reads' HO148.out).2.2); (case side2 => exact (Kd.R_reads' HO148.out).2.1); (case side3 => exact sc_ (Kd.R_reads' HO183.out).2.2); (case side4 => exact (Kd.R_reads' HO183.out).2.1); rintro e w115 ⟨v185, rfl, ho0, hb⟩; refine ⟨_, rfl, ?_⟩; have n0_ := Aside0.mk (Kd.R_elder' (kr_ HO142) (Kd.R_base ho0) hb); have n1_ := Aside0.mk (Kd.R_below (kr_ HO145) hb); have n2_ := Aside0.mk (Kd.R_elder' (kr_ HO148) (Kd.R_base ho0) hb); have n3_ := Aside0.mk (Kd.R_below (kr_ HO183) hb); have n4_ := Aside0.mk (Kd.R_lower (Kd.R_new' (Kd.R_new' ho0 (Kd.R_lt (kr_ HO142))) (Kd.R_lt (kr_ HO148))) (below_size (bl1_ HB GE138))); have n5_ := Aside0.mk (blk_below (g := gb138) (bk_ BK138) hb); have n6_ := Aside0.mk (below_step (bl1_ HB GE138) hb); clear HO142; clear HO145; clear HO148; clear HO183; clear BK138; clear HB; have HO142 := n0_; have HO145 := n1_; have HO148 := n2_; have HO183 := n3_; have HO186 := n4_; have BK138 := n5_; have HB := n6_; clear n0_ n1_ n2_ n3_ n4_ n5_ n6_; (try clear hb); (try clear hb2); (try clear hk); (try clear hi); (try clear ho0); refine cz7_ BK138.out ?_; intro hcz116_0 hcz116_1 hcz116_2 hcz116_3 hcz116_4 hcz116_5 hcz116_6 hfz116_0 hfz116_1 hfz116_2 hfz116_3 hfz116_4 hfz116_5 hfz116_6) | ((with_reducible refine gate_callee (f := 53) rfl ?_); refine goesL_ (some 80) rfl rfl Try.func53 (by kernel_rfl) rfl #[.slice none 0 0, .slice A0_3 l0_3.length c0_3] rfl ar_ ?_; (refine (pdu_lay.calls _ _ ([] : List Int) _ _ l0_3 t187 _ ?side1 ?side2 ?side3 ?side4 A96.out).mono ?_); (case side1 => exact Kd.C_nil _ _); (case side2 => exact Nat.le_refl _); (case side3 => exact sc_ (Kd.C_below HR0_3.out HB.out)); (case side4 => exact HC0_3.out); rintro e w117 ⟨v188, rfl, ho0, hb⟩; refine ⟨_, rfl, ?_⟩; have n0_ := Aside0.mk (Kd.R_elder' (kr_ HO142) (Kd.R_base ho0) hb); have n1_ := Aside0.mk (Kd.R_below (kr_ HO145) hb); have n2_ := Aside0.mk (Kd.R_elder' (kr_ HO148) (Kd.R_base ho0) hb); have n3_ := Aside0.mk (Kd.R_below (kr_ HO183) hb); have n4_ := Aside0.mk (Kd.R_elder' (kr_ HO186) (Kd.R_base ho0) hb); have n5_ := Aside0.mk (Kd.R_lower (Kd.R_new' (Kd.R_new' (Kd.R_new' ho0 (Kd.R_lt (kr_ HO142))) (Kd.R_lt (kr_ HO148))) (Kd.R_lt (kr_ HO186))) (below_size (bl1_ HB GE138))); have n6_ := Aside0.mk (blk_below (g := gb138) (bk_ BK138) hb); have n7_ := Aside0.mk (below_step (bl1_ HB GE138) hb); clear HO142; clear HO145; clear HO148; clear HO183; clear HO186; clear BK138; clear HB; have HO142 := n0_; have HO145 := n1_; have HO148 := n2_; have HO183 := n3_; have HO186 := n4_; have HO189 := n5_; have BK138 := n6_; have HB := n7_; clear n0_ n1_ n2_ n3_ n4_ n5_ n6_ n7_; (try clear hb); (try clear hb2); (try clear hk); (try clear hi); (try clear ho0); obtain ⟨Ao118, co118, eo118⟩ := Kd.R_slice HO186.out; subst eo118; obtain ⟨Ao119, co119, eo119⟩ := Kd.R_slice HO189.out; subst eo119) | ((with_reducible refine gate_callee (f := 54) rfl ?_); refine goesL_ (some 81) rfl rfl Try.func54 (by kernel_rfl) rfl #[.slice Ao118 t184.length co118, .slice Ao119 t187.length co119] rfl ar_ ?_; (with_reducible refine (pdu_counted.calls (fun k_ => some k_ = (.slice Ao118 t184.length co118 : Value).ownBlock) (.slice Ao118 t184.length co118) t184 _ _ t187 t190 w _ ?side1 ?side2 ?side3 ?side4 A97.out).mono ?_); (case side1 => repeat (first | (with_reducible first | exact HB.out | apply below_alloc | apply pw_below_drewN | apply below_drew1 | refine below_set ?_ GE138.out) | exact HB.out)); (case side2 => exact Kd.R_tight rfl HO186.out); (case side3 => exact Kd.C_kept_own (HO189.out) (fun k_ hk_ hs_ => (hk_.2) hs_)); (case side4 => exact (Kd.R_reads' HO189.out).2.1); rintro e w120 ⟨v191, rfl, ho0, hb, hkp⟩; refine ⟨_, rfl, ?_⟩; have n0_ := Aside0.mk (blk_kept (bk_ BK138) hkp (fun hs_ => (fun e_ => (Kd.R_ne HO186.out BK138.out (by decide)) e_) hs_)); have n1_ := Aside0.mk (Kd.R_mono (ok' := fun k_ => some k_ ≠ (.slice Ao113 t146.length co113 : Value).ownBlock ∧ some k_ ≠ (.slice Ao119 t187.length co119 : Value).ownBlock ∧ some k_ ≠ (v191 : Value).ownBlock) (Kd.R_keptB (HO142.out) hkp (fun k_ hk_ hs_ => (hk_.1.2) hs_)) (fun k_ hk_ => ⟨hk_.1.1.1.2, hk_.1.2, fun e_ => Or.elim (ho0.1 k_ e_.symm) (fun hs_ => hk_.2.1 hs_) (fun hn_ => Nat.not_le.2 hk_.2.2 hn_)⟩)); have n2_ := Aside0.mk (Kd.R_mono (ok' := fun k_ => some k_ ≠ (.slice Ao114 y181.length co114 : Value).ownBlock) (Kd.R_keptB ((Kd.R_apart' HO145.out (Kd.R_typed HO186.out) (by decide))) hkp (fun k_ hk_ hs_ => (hk_.2) hs_)) (fun k_ hk_ => hk_.1.1.2)); have n3_ := Aside0.mk (Kd.R_mono (ok' := fun k_ => some k_ ≠ (.slice Ao107 y140.length co107 : Value).ownBlock ∧ some k_ ≠ (.slice Ao119 t187.length co119 : Value).ownBlock ∧ some k_ ≠ (v191 : Value).ownBlock) (Kd.R_keptB (HO148.out) hkp (fun k_ hk_ hs_ => (hk_.1.2) hs_)) (fun k_ hk_ => ⟨hk_.1.1.1.2, hk_.1.2, fun e_ => Or.elim (ho0.1 k_ e_.symm) (fun hs_ => hk_.2.1 hs_) (fun hn_ => Nat.not_le.2 hk_.2.2 hn_)⟩)); have n4_ := Aside0.mk (Kd.R_mono (ok' := fun k_ => some k_ ≠ (.slice Ao108 y143.length co108 : Value).ownBlock) (Kd.R_keptB ((Kd.R_apart' HO183.out (Kd.R_typed HO186.out) (by decide))) hkp (fun k_ hk_ hs_ => (hk_.2) hs_)) (fun k_ hk_ => hk_.1.1.2)); have n5_ := Aside0.mk (Kd.R_mono (ok' := fun k_ => some k_ ≠ (.slice Ao107 y140.length co107 : Value).ownBlock ∧ some k_ ≠ (.slice Ao113 t146.length co113 : Value).ownBlock ∧ some k_ ≠ (v191 : Value).ownBlock) (Kd.R_keptB (HO189.out) hkp (fun k_ hk_ hs_ => (hk_.2) hs_)) (fun k_ hk_ => ⟨hk_.1.1.1.2, hk_.1.1.2, fun e_ => Or.elim (ho0.1 k_ e_.symm) (fun hs_ => hk_.2.1 hs_) (fun hn_ => Nat.not_le.2 hk_.2.2 hn_)⟩)); have n6_ := Aside0.mk (Kd.R_mono (ok' := fun k_ => some k_ ≠ (.slice Ao107 y140.length co107 : Value).ownBlock ∧ some k_ ≠ (.slice Ao113 t146.length co113 : Value).ownBlock ∧ some k_ ≠ (.slice Ao119 t187.length co119 : Value).ownBlock) ho0 (fun k_ hk_ => ⟨Or.elim hk_ (fun hs_ => fun e_ => (((HO142.out).1 k_ e_.symm).1.2) hs_) (fun hn_ => (Kd.fresh' (Kd.R_lt (kr_ HO142)) k_ hn_)), Or.elim hk_ (fun hs_ => fun e_ => (((HO148.out).1 k_ e_.symm).1.2) hs_) (fun hn_ => (Kd.fresh' (Kd.R_lt (kr_ HO148)) k_ hn_)), Or.elim hk_ (fun hs_ => fun e_ => (((HO189.out).1 k_ e_.symm).2) hs_) (fun hn_ => (Kd.fresh' (Kd.R_lt (kr_ HO189)) k_ hn_))⟩)); have n7_ := Aside0.mk (hb); clear BK138; clear HO142; clear HO145; clear HO148; clear HO183; clear HO189; clear HB; clear HO186; have BK138 := n0_; have HO142 := n1_; have HO145 := n2_; have HO148 := n3_; have HO183 := n4_; have HO189 := n5_; have HO192 := n6_; have HB := n7_; clear n0_ n1_ n2_ n3_ n4_ n5_ n6_ n7_; (try clear hb); (try clear hkp); (try clear ho0)))
       go_ret2
       exact ⟨_, er_, by (with_reducible repeat (first | apply Kd.R_alloc | apply Kd.R_drewN | apply Kd.R_drew)); exact Kd.R_mono HO192.out (fun _ hk => trivial), bl1_ HB GE138⟩
      ·rw [if_neg c94] at H
       have c94b0 : (a0_0 == 23) = false := beq_eq_false_iff_ne.mpr c94
       have c94b1 : (a0_0 != 23) = true := bne_iff_ne.mpr c94
       by_cases c121 : a0_0 = 16
       ·rw [if_pos c121] at H
        have c121b0 : (a0_0 == 16) = true := beq_iff_eq.mpr c121
        have c121b1 : (a0_0 != 16) = false := bne_eq_false_iff_eq.mpr c121
        clear c121
        obtain ⟨y193, hy193⟩ : ∃ y_ : List Int, y_ = (([a0_2] : List Int)) := ⟨_, rfl⟩
        replace H : ((pdu_lay.f t146 y193).bind fun t196 => ((pdu_lay.f ([] : List Int) l0_3).bind fun t199 => ((pdu_counted.f t196 t199).bind fun t202 => (some (t202, 0))))) = some (r1, r2) := by first | (rw [hy193]; with_reducible exact H) | (have H2_ := (Option.bind_some _ _).symm.trans H; rw [hy193]; with_reducible exact H2_) | (have H2_ := (Option.bind_some _ _).symm.trans H; with_reducible exact H2_) | with_reducible exact H | (rw [hy193]; exact H) | exact H
        have Ny193 := Aside0.mk hy193
        clear hy193
        replace H := Option.bind_eq_some_iff.mp H
        obtain ⟨t196, A1220, H⟩ := H
        replace H : ((pdu_lay.f ([] : List Int) l0_3).bind fun t199 => ((pdu_counted.f t196 t199).bind fun t202 => (some (t202, 0)))) = some (r1, r2) := H
        have A122 := Aside0.mk A1220
        clear A1220
        replace H := Option.bind_eq_some_iff.mp H
        obtain ⟨t199, A1230, H⟩ := H
        replace H : ((pdu_counted.f t196 t199).bind fun t202 => (some (t202, 0))) = some (r1, r2) := H
        have A123 := Aside0.mk A1230
        clear A1230
        replace H := Option.bind_eq_some_iff.mp H
        obtain ⟨t202, A1240, H⟩ := H
        replace H : (some (t202, 0)) = some (r1, r2) := H
        have A124 := Aside0.mk A1240
        clear A1240
        simp only [Option.some.injEq, Prod.mk.injEq] at H
        obtain ⟨rfl, rfl⟩ := H
        go_enter Try.func30, Try.ntmps30
        try go_wp2_with (first | ((with_reducible refine gate_dst (N := 1) rfl ?_); refine bx_ (N := 1) (cs := #[.int .i64 a0_0, .int .i64 a0_1, .int .i64 a0_2, .slice A0_3 l0_3.length c0_3, .int .i64 a0_4, .int .i64 a0_5, .int .i64 a0_6]) (t := 24) ?_; intro gb138 hg w125 hbox hb; have n0_ := Aside0.mk (below_step (bl0_ HB) hb); have n1_ := Aside0.mk (hbox); have n2_ := Aside0.mk ((by rw [hg]; exact (below_size (bl0_ HB)) : w.heap.size ≤ gb138)); have n3_ := Aside0.mk ((by rw [hg]; exact (below_size (bl0_ HB)) : w.heap.size ≤ gb138)); clear HB; have HB := n0_; have BK138 := n1_; have GW138 := n2_; have GE138 := n3_; clear n0_ n1_ n2_ n3_; clear hb hbox hg; refine cz7_ BK138.out ?_; intro hcz126_0 hcz126_1 hcz126_2 hcz126_3 hcz126_4 hcz126_5 hcz126_6 hfz126_0 hfz126_1 hfz126_2 hfz126_3 hfz126_4 hfz126_5 hfz126_6) | ((with_reducible refine gate_callee (f := 29) rfl ?_); refine goesL_ (some 7) rfl rfl Try.func29 (by kernel_rfl) rfl #[.agg #[.int .i64 a0_0, .int .i64 a0_1, .int .i64 a0_2, .slice A0_3 l0_3.length c0_3, .int .i64 a0_4, .int .i64 a0_5, .int .i64 a0_6]] rfl ar_ ?_; (with_reducible refine (pdu_Check.calls k a0_0 a0_1 a0_2 _ _ l0_3 a0_4 a0_5 a0_6 t139 _ ?side1 ?side2 A2.out).mono ?_); (case side1 => exact sc_ (Kd.C_below HR0_3.out HB.out)); (case side2 => exact HC0_3.out); rintro e w127 ⟨rfl, hb⟩; refine ⟨_, rfl, ?_⟩; have n0_ := Aside0.mk (blk_below (g := gb138) (bk_ BK138) hb); have n1_ := Aside0.mk (below_step (bl1_ HB GE138) hb); clear BK138; clear HB; have BK138 := n0_; have HB := n1_; clear n0_ n1_; (try clear hb); (try clear hb2); (try clear hk); (try clear hi); refine cz7_ BK138.out ?_; intro hcz128_0 hcz128_1 hcz128_2 hcz128_3 hcz128_4 hcz128_5 hcz128_6 hfz128_0 hfz128_1 hfz128_2 hfz128_3 hfz128_4 hfz128_5 hfz128_6) | ((with_reducible refine gate_dst (N := 14) rfl ?_); refine Kd.R_lit (Kd.int .u8) _ 5 ?hg (N := 14) ?hd (xs := ([(a0_0) % 256] : List Int)) (inner := [.int .u8 ((a0_0) % 256)]) (ok := fun _ => True) (okp := fun _ => True) ?hr ?hp (fun _ hk => hk) trivial (Below.refl _ _) (Nat.le_refl _) (by simp) ?_; (case hd => rfl); (case hg => rfl); (case hr => first | (go_simp; done) | (go_simp; rfl)); (case hp => exact (Reps.one (show Kd.M (Kd.int .u8) _ _ _ ((a0_0) % 256) [.int .u8 ((a0_0) % 256)] from rfl) (Reps.none _ _))); intro v141 w129 ho130 hb hg_ hnew_; clear hg_ hnew_; (first | rw [← Ny140.out] at ho130 | (simp only [Int.reduceToNat] at ho130; rw [← Ny140.out] at ho130)); have n0_ := Aside0.mk (Kd.R_lower ho130 (below_size (bl1_ HB GE138))); have n1_ := Aside0.mk (blk_below (g := gb138) (bk_ BK138) hb); have n2_ := Aside0.mk (below_step (bl1_ HB GE138) hb); clear BK138; clear HB; have HO142 := n0_; have BK138 := n1_; have HB := n2_; clear n0_ n1_ n2_; clear hb ho130; refine cz7_ BK138.out ?_; intro hcz131_0 hcz131_1 hcz131_2 hcz131_3 hcz131_4 hcz131_5 hcz131_6 hfz131_0 hfz131_1 hfz131_2 hfz131_3 hfz131_4 hfz131_5 hfz131_6) | ((with_reducible refine gate_dst (N := 17) rfl ?_); refine Kd.R_lit (Kd.int .i64) _ 3 ?hg (N := 17) ?hd (xs := ([a0_1] : List Int)) (inner := [.int .i64 a0_1]) (ok := fun _ => True) (okp := fun _ => True) ?hr ?hp (fun _ hk => hk) trivial (Below.refl _ _) (Nat.le_refl _) (by simp) ?_; (case hd => rfl); (case hg => rfl); (case hr => first | (go_simp; done) | (go_simp; rfl)); (case hp => exact (Reps.one (show Kd.M (Kd.int .i64) _ _ _ a0_1 [.int .i64 a0_1] from rfl) (Reps.none _ _))); intro v144 w132 ho133 hb hg_ hnew_; clear hg_ hnew_; (first | rw [← Ny143.out] at ho133 | (simp only [Int.reduceToNat] at ho133; rw [← Ny143.out] at ho133)); have n0_ := Aside0.mk (Kd.R_below (kr_ HO142) hb); have n1_ := Aside0.mk (Kd.R_lower ho133 (below_size (bl1_ HB GE138))); have n2_ := Aside0.mk (blk_below (g := gb138) (bk_ BK138) hb); have n3_ := Aside0.mk (below_step (bl1_ HB GE138) hb); clear HO142; clear BK138; clear HB; have HO142 := n0_; have HO145 := n1_; have BK138 := n2_; have HB := n3_; clear n0_ n1_ n2_ n3_; clear hb ho133; obtain ⟨Ao134, co134, eo134⟩ := Kd.R_slice HO142.out; subst eo134; obtain ⟨Ao135, co135, eo135⟩ := Kd.R_slice HO145.out; subst eo135) | ((with_reducible refine gate_callee (f := 53) rfl ?_); refine goesL_ (some 18) rfl rfl Try.func53 (by kernel_rfl) rfl #[.slice Ao134 y140.length co134, .slice Ao135 y143.length co135] rfl ar_ ?_; (with_reducible refine (pdu_lay.calls _ _ y140 _ _ y143 t146 _ ?side1 ?side2 ?side3 ?side4 A4.out).mono ?_); (case side1 => exact sc_ (Kd.R_reads' HO142.out).2.2); (case side2 => exact (Kd.R_reads' HO142.out).2.1); (case side3 => exact sc_ (Kd.R_reads' HO145.out).2.2); (case side4 => exact (Kd.R_reads' HO145.out).2.1); rintro e w136 ⟨v147, rfl, ho0, hb⟩; refine ⟨_, rfl, ?_⟩; have n0_ := Aside0.mk (Kd.R_elder' (kr_ HO142) (Kd.R_base ho0) hb); have n1_ := Aside0.mk (Kd.R_below (kr_ HO145) hb); have n2_ := Aside0.mk (Kd.R_lower (Kd.R_new' ho0 (Kd.R_lt (kr_ HO142))) (below_size (bl1_ HB GE138))); have n3_ := Aside0.mk (blk_below (g := gb138) (bk_ BK138) hb); have n4_ := Aside0.mk (below_step (bl1_ HB GE138) hb); clear HO142; clear HO145; clear BK138; clear HB; have HO142 := n0_; have HO145 := n1_; have HO148 := n2_; have BK138 := n3_; have HB := n4_; clear n0_ n1_ n2_ n3_ n4_; (try clear hb); (try clear hb2); (try clear hk); (try clear hi); (try clear ho0); refine cz7_ BK138.out ?_; intro hcz137_0 hcz137_1 hcz137_2 hcz137_3 hcz137_4 hcz137_5 hcz137_6 hfz137_0 hfz137_1 hfz137_2 hfz137_3 hfz137_4 hfz137_5 hfz137_6))
        have n0_ := Aside0.mk (Kd.R_drew HO142.out)
        have n1_ := Aside0.mk (Kd.R_drew HO145.out)
        have n2_ := Aside0.mk (Kd.R_drew HO148.out)
        have n3_ := Aside0.mk (blk_drew BK138.out)
        have n4_ := Aside0.mk (below_drew1 HB.out)
        clear HO142
        clear HO145
        clear HO148
        clear BK138
        clear HB
        have HO142 := n0_
        have HO145 := n1_
        have HO148 := n2_
        have BK138 := n3_
        have HB := n4_
        clear n0_ n1_ n2_ n3_ n4_
        refine start_ (n := 10) (S := fun w' => w'.cell? ⟨gb138, 0, none⟩ = some (.int .i64 a0_0) ∧ w'.cell? ⟨gb138, 1, none⟩ = some (.int .i64 a0_1) ∧ w'.cell? ⟨gb138, 2, none⟩ = some (.int .i64 a0_2) ∧ w'.cell? ⟨gb138, 3, none⟩ = some (.slice A0_3 l0_3.length c0_3) ∧ w'.cell? ⟨gb138, 4, none⟩ = some (.int .i64 a0_4) ∧ w'.cell? ⟨gb138, 5, none⟩ = some (.int .i64 a0_5) ∧ w'.cell? ⟨gb138, 6, none⟩ = some (.int .i64 a0_6)) (ds := []) #[false, false, false, false, false, false, false, false, false, false] (by kernel_rfl) rfl rfl ⟨(blk_cell BK138.out 0).trans rfl, (blk_cell BK138.out 1).trans rfl, (blk_cell BK138.out 2).trans rfl, (blk_cell BK138.out 3).trans rfl, (blk_cell BK138.out 4).trans rfl, (blk_cell BK138.out 5).trans rfl, (blk_cell BK138.out 6).trans rfl⟩ (fun hHeld => ?_); refine with_tabW pdu_Bytes.tab19 pdu_Bytes.bits19 (fun HT_ HW_ => ?_)
        generalize w136.drew = w138 at HO142 HO145 HO148 BK138 HB hHeld ⊢
        refine pure_ (i := 0) (N := some 84) (v := ?_) (a' := ?_) #[true, false, false, false, false, false, false, false, false, false] rfl rfl (any_of HT_.out (by kernel_rfl)) (fun _ _ _ h => h) (Or.inl ⟨by rfl, ?_⟩) ?_ ?_
        rotate_left
        ·intro w'
         go_simp
         with_reducible rfl
        rotate_left
        ·simp only [Act.put, List.setIfInBounds_toArray, List.set_cons_zero, List.set_cons_succ, i64_w, i32_w]
         rfl
        refine pure_ (i := 1) (N := some 85) (v := ?_) (a' := ?_) #[true, true, false, false, false, false, false, false, false, false] rfl rfl (any_of HT_.out (by kernel_rfl)) (fun _ _ _ h => h) (Or.inl ⟨by rfl, ?_⟩) ?_ ?_
        rotate_left
        ·intro w'
         go_simp
         with_reducible rfl
        rotate_left
        ·simp only [Act.put, List.setIfInBounds_toArray, List.set_cons_zero, List.set_cons_succ, i64_w, i32_w]
         rfl
        refine pure_ (i := 5) (N := some 89) (v := ?_) (a' := ?_) #[true, true, false, false, false, true, false, false, false, false] rfl rfl (any_of HT_.out (by kernel_rfl)) (fun _ _ _ h => h) (Or.inl ⟨by rfl, ?_⟩) ?_ ?_
        rotate_left
        ·intro w'
         go_simp
         with_reducible rfl
        rotate_left
        ·simp only [Act.put, List.setIfInBounds_toArray, List.set_cons_zero, List.set_cons_succ, i64_w, i32_w]
         rfl
        refine take_ (i := 2) (N := some 86) (v := ?_) (a' := ?_) #[true, true, true, false, false, true, false, false, false, false] rfl rfl (take_ofW HT_.out HW_.out (by kernel_rfl)) (fun _ _ _ h => h) (Or.inl ⟨by rfl, ?_⟩) hHeld ?_ ?_
        rotate_left
        ·rintro w' ⟨s0, s1, s2, s3, s4, s5, s6⟩
         go_simp
         with_reducible rfl
        rotate_left
        ·simp only [Act.put, List.setIfInBounds_toArray, List.set_cons_zero, List.set_cons_succ, i64_w, i32_w]
         rfl
        refine take_ (i := 6) (N := some 90) (v := ?_) (a' := ?_) #[true, true, true, false, false, true, true, false, false, false] rfl rfl (take_ofW HT_.out HW_.out (by kernel_rfl)) (fun _ _ _ h => h) (Or.inl ⟨by rfl, ?_⟩) hHeld ?_ ?_
        rotate_left
        ·rintro w' ⟨s0, s1, s2, s3, s4, s5, s6⟩
         go_simp
         with_reducible rfl
        rotate_left
        ·simp only [Act.put, List.setIfInBounds_toArray, List.set_cons_zero, List.set_cons_succ, i64_w, i32_w]
         rfl
        refine one_ (i := 3) (N := some 87) #[true, true, true, true, false, true, true, false, false, false] rfl rfl (one_of HT_.out (by kernel_rfl)) (by decide) (fun K hK => ?_)
        refine Kd.R_lit_step (Kd.int .i64) _ 3 ?hg (N := 87) ?hd (xs := ([a0_2] : List Int)) (inner := [.int .i64 a0_2]) (ok := fun _ => True) (okp := fun _ => True) ?hr ?hp (fun _ hk => hk) trivial (Below.refl _ _) (Nat.le_refl _) (by simp) ?_; (case hd => rfl); (case hg => rfl); (case hr => first | (go_simp; done) | (go_simp; rfl)); (case hp => exact (Reps.one (show Kd.M (Kd.int .i64) _ _ _ a0_2 [.int .i64 a0_2] from rfl) (Reps.none _ _)))
        intro v194 w139 ho140 hb hg_ hnew_
        clear hg_ hnew_
        (first | rw [← Ny193.out] at ho140 | (simp only [Int.reduceToNat] at ho140; rw [← Ny193.out] at ho140))
        have n0_ := Aside0.mk (Kd.R_below (kr_ HO142) hb)
        have n1_ := Aside0.mk (Kd.R_elder' (kr_ HO145) (Kd.R_base ho140) hb)
        have n2_ := Aside0.mk (Kd.R_below (kr_ HO148) hb)
        have n3_ := Aside0.mk (Kd.R_lower (Kd.R_new' ho140 (Kd.R_lt (kr_ HO145))) (below_size (bl1_ HB GE138)))
        have n4_ := Aside0.mk (blk_below (g := gb138) (bk_ BK138) hb)
        have n5_ := Aside0.mk (below_step (bl1_ HB GE138) hb)
        clear HO142
        clear HO145
        clear HO148
        clear BK138
        clear HB
        have HO142 := n0_
        have HO145 := n1_
        have HO148 := n2_
        have HO195 := n3_
        have BK138 := n4_
        have HB := n5_
        clear n0_ n1_ n2_ n3_ n4_ n5_
        clear hb ho140
        obtain ⟨Ao141, co141, eo141⟩ := Kd.R_slice HO148.out
        (first | subst eo141 | (injection eo141 with f1_ f2_ f3_; have f4_ := f1_.symm; have f5_ := f3_.symm; clear f1_ f2_ f3_; subst f4_; subst f5_))
        obtain ⟨Ao142, co142, eo142⟩ := Kd.R_slice HO195.out
        (first | subst eo142 | (injection eo142 with f1_ f2_ f3_; have f4_ := f1_.symm; have f5_ := f3_.symm; clear f1_ f2_ f3_; subst f4_; subst f5_))
        refine hK.out _ _ ⟨(blk_cell BK138.out 0).trans rfl, (blk_cell BK138.out 1).trans rfl, (blk_cell BK138.out 2).trans rfl, (blk_cell BK138.out 3).trans rfl, (blk_cell BK138.out 4).trans rfl, (blk_cell BK138.out 5).trans rfl, (blk_cell BK138.out 6).trans rfl⟩ (fun hHeld => ?_)
        clear hK K
        refine norm_ (a' := ?_) ?_ ?_
        rotate_left
        ·show Act.put _ (some 87) _ = _
         simp only [Act.put, List.setIfInBounds_toArray, List.set_cons_zero, List.set_cons_succ, i64_w, i32_w]
         rfl
        refine one_ (i := 4) (N := some 88) #[true, true, true, true, true, true, true, false, false, false] rfl rfl (one_of HT_.out (by kernel_rfl)) (by decide) (fun K hK => ?_)
        refine goes_ Try.func53 (by kernel_rfl) rfl #[.slice Ao141 t146.length co141, .slice Ao142 y193.length co142] (by rfl) rfl rfl ar_ ?_
        with_reducible refine (pdu_lay.calls _ _ t146 _ _ y193 t196 _ ?side1 ?side2 ?side3 ?side4 A122.out).mono ?_
        (case side1 => exact sc_ (Kd.R_reads' HO148.out).2.2)
        (case side2 => exact (Kd.R_reads' HO148.out).2.1)
        (case side3 => exact sc_ (Kd.R_reads' HO195.out).2.2)
        (case side4 => exact (Kd.R_reads' HO195.out).2.1)
        rintro e w143 ⟨v197, rfl, ho0, hb⟩
        refine ⟨_, rfl, ?_⟩
        have n0_ := Aside0.mk (Kd.R_elder' (kr_ HO142) (Kd.R_base ho0) hb)
        have n1_ := Aside0.mk (Kd.R_below (kr_ HO145) hb)
        have n2_ := Aside0.mk (Kd.R_elder' (kr_ HO148) (Kd.R_base ho0) hb)
        have n3_ := Aside0.mk (Kd.R_below (kr_ HO195) hb)
        have n4_ := Aside0.mk (Kd.R_lower (Kd.R_new' (Kd.R_new' ho0 (Kd.R_lt (kr_ HO142))) (Kd.R_lt (kr_ HO148))) (below_size (bl1_ HB GE138)))
        have n5_ := Aside0.mk (blk_below (g := gb138) (bk_ BK138) hb)
        have n6_ := Aside0.mk (below_step (bl1_ HB GE138) hb)
        clear HO142
        clear HO145
        clear HO148
        clear HO195
        clear BK138
        clear HB
        have HO142 := n0_
        have HO145 := n1_
        have HO148 := n2_
        have HO195 := n3_
        have HO198 := n4_
        have BK138 := n5_
        have HB := n6_
        clear n0_ n1_ n2_ n3_ n4_ n5_ n6_
        (try clear hb)
        (try clear hb2)
        (try clear hk)
        (try clear hi)
        (try clear ho0)
        refine hK.out _ _ ⟨(blk_cell BK138.out 0).trans rfl, (blk_cell BK138.out 1).trans rfl, (blk_cell BK138.out 2).trans rfl, (blk_cell BK138.out 3).trans rfl, (blk_cell BK138.out 4).trans rfl, (blk_cell BK138.out 5).trans rfl, (blk_cell BK138.out 6).trans rfl⟩ (fun hHeld => ?_)
        clear hK K
        refine norm_ (a' := ?_) ?_ ?_
        rotate_left
        ·show Act.put _ (some 88) _ = _
         simp only [Act.put, List.setIfInBounds_toArray, List.set_cons_zero, List.set_cons_succ, i64_w, i32_w]
         rfl
        refine one_ (i := 7) (N := some 91) #[true, true, true, true, true, true, true, true, false, false] rfl rfl (one_of HT_.out (by kernel_rfl)) (by decide) (fun K hK => ?_)
        refine goes_ Try.func53 (by kernel_rfl) rfl #[.slice none 0 0, .slice A0_3 l0_3.length c0_3] (by rfl) rfl rfl ar_ ?_
        refine (pdu_lay.calls _ _ ([] : List Int) _ _ l0_3 t199 _ ?side1 ?side2 ?side3 ?side4 A123.out).mono ?_
        (case side1 => exact Kd.C_nil _ _)
        (case side2 => exact Nat.le_refl _)
        (case side3 => exact sc_ (Kd.C_below HR0_3.out HB.out))
        (case side4 => exact HC0_3.out)
        rintro e w144 ⟨v200, rfl, ho0, hb⟩
        refine ⟨_, rfl, ?_⟩
        have n0_ := Aside0.mk (Kd.R_elder' (kr_ HO142) (Kd.R_base ho0) hb)
        have n1_ := Aside0.mk (Kd.R_below (kr_ HO145) hb)
        have n2_ := Aside0.mk (Kd.R_elder' (kr_ HO148) (Kd.R_base ho0) hb)
        have n3_ := Aside0.mk (Kd.R_below (kr_ HO195) hb)
        have n4_ := Aside0.mk (Kd.R_elder' (kr_ HO198) (Kd.R_base ho0) hb)
        have n5_ := Aside0.mk (Kd.R_lower (Kd.R_new' (Kd.R_new' (Kd.R_new' ho0 (Kd.R_lt (kr_ HO142))) (Kd.R_lt (kr_ HO148))) (Kd.R_lt (kr_ HO198))) (below_size (bl1_ HB GE138)))
        have n6_ := Aside0.mk (blk_below (g := gb138) (bk_ BK138) hb)
        have n7_ := Aside0.mk (below_step (bl1_ HB GE138) hb)
        clear HO142
        clear HO145
        clear HO148
        clear HO195
        clear HO198
        clear BK138
        clear HB
        have HO142 := n0_
        have HO145 := n1_
        have HO148 := n2_
        have HO195 := n3_
        have HO198 := n4_
        have HO201 := n5_
        have BK138 := n6_
        have HB := n7_
        clear n0_ n1_ n2_ n3_ n4_ n5_ n6_ n7_
        (try clear hb)
        (try clear hb2)
        (try clear hk)
        (try clear hi)
        (try clear ho0)
        obtain ⟨Ao145, co145, eo145⟩ := Kd.R_slice HO198.out
        (first | subst eo145 | (injection eo145 with f1_ f2_ f3_; have f4_ := f1_.symm; have f5_ := f3_.symm; clear f1_ f2_ f3_; subst f4_; subst f5_))
        obtain ⟨Ao146, co146, eo146⟩ := Kd.R_slice HO201.out
        (first | subst eo146 | (injection eo146 with f1_ f2_ f3_; have f4_ := f1_.symm; have f5_ := f3_.symm; clear f1_ f2_ f3_; subst f4_; subst f5_))
        refine hK.out _ _ ⟨(blk_cell BK138.out 0).trans rfl, (blk_cell BK138.out 1).trans rfl, (blk_cell BK138.out 2).trans rfl, (blk_cell BK138.out 3).trans rfl, (blk_cell BK138.out 4).trans rfl, (blk_cell BK138.out 5).trans rfl, (blk_cell BK138.out 6).trans rfl⟩ (fun hHeld => ?_)
        clear hK K
        refine norm_ (a' := ?_) ?_ ?_
        rotate_left
        ·show Act.put _ (some 91) _ = _
         simp only [Act.put, List.setIfInBounds_toArray, List.set_cons_zero, List.set_cons_succ, i64_w, i32_w]
         rfl
        refine one_ (i := 8) (N := some 92) #[true, true, true, true, true, true, true, true, true, false] rfl rfl (one_of HT_.out (by kernel_rfl)) (by decide) (fun K hK => ?_)
        refine goes_ Try.func54 (by kernel_rfl) rfl #[.slice Ao145 t196.length co145, .slice Ao146 t199.length co146] (by rfl) rfl rfl ar_ ?_
        with_reducible refine (pdu_counted.calls (fun k_ => some k_ = (.slice Ao145 t196.length co145 : Value).ownBlock) (.slice Ao145 t196.length co145) t196 _ _ t199 t202 w _ ?side1 ?side2 ?side3 ?side4 A124.out).mono ?_
        (case side1 => repeat (first | (with_reducible first | exact HB.out | apply below_alloc | apply pw_below_drewN | apply below_drew1 | refine below_set ?_ GE138.out) | exact HB.out))
        (case side2 => exact Kd.R_tight rfl HO198.out)
        (case side3 => exact Kd.C_kept_own (HO201.out) (fun k_ hk_ hs_ => (hk_.2) hs_))
        (case side4 => exact (Kd.R_reads' HO201.out).2.1)
        rintro e w147 ⟨v203, rfl, ho0, hb, hkp⟩
        refine ⟨_, rfl, ?_⟩
        have n0_ := Aside0.mk (blk_kept (bk_ BK138) hkp (fun hs_ => (fun e_ => (Kd.R_ne HO198.out BK138.out (by decide)) e_) hs_))
        have n1_ := Aside0.mk (Kd.R_mono (ok' := fun k_ => some k_ ≠ (.slice Ao141 t146.length co141 : Value).ownBlock ∧ some k_ ≠ (.slice Ao146 t199.length co146 : Value).ownBlock ∧ some k_ ≠ (v203 : Value).ownBlock) (Kd.R_keptB (HO142.out) hkp (fun k_ hk_ hs_ => (hk_.1.2) hs_)) (fun k_ hk_ => ⟨hk_.1.1.1.2, hk_.1.2, fun e_ => Or.elim (ho0.1 k_ e_.symm) (fun hs_ => hk_.2.1 hs_) (fun hn_ => Nat.not_le.2 hk_.2.2 hn_)⟩))
        have n2_ := Aside0.mk (Kd.R_mono (ok' := fun k_ => some k_ ≠ (.slice Ao142 y193.length co142 : Value).ownBlock) (Kd.R_keptB ((Kd.R_apart' HO145.out (Kd.R_typed HO198.out) (by decide))) hkp (fun k_ hk_ hs_ => (hk_.2) hs_)) (fun k_ hk_ => hk_.1.1.2))
        have n3_ := Aside0.mk (Kd.R_mono (ok' := fun k_ => some k_ ≠ (.slice Ao134 y140.length co134 : Value).ownBlock ∧ some k_ ≠ (.slice Ao146 t199.length co146 : Value).ownBlock ∧ some k_ ≠ (v203 : Value).ownBlock) (Kd.R_keptB (HO148.out) hkp (fun k_ hk_ hs_ => (hk_.1.2) hs_)) (fun k_ hk_ => ⟨hk_.1.1.1.2, hk_.1.2, fun e_ => Or.elim (ho0.1 k_ e_.symm) (fun hs_ => hk_.2.1 hs_) (fun hn_ => Nat.not_le.2 hk_.2.2 hn_)⟩))
        have n4_ := Aside0.mk (Kd.R_mono (ok' := fun k_ => some k_ ≠ (.slice Ao135 y143.length co135 : Value).ownBlock) (Kd.R_keptB ((Kd.R_apart' HO195.out (Kd.R_typed HO198.out) (by decide))) hkp (fun k_ hk_ hs_ => (hk_.2) hs_)) (fun k_ hk_ => hk_.1.1.2))
        have n5_ := Aside0.mk (Kd.R_mono (ok' := fun k_ => some k_ ≠ (.slice Ao134 y140.length co134 : Value).ownBlock ∧ some k_ ≠ (.slice Ao141 t146.length co141 : Value).ownBlock ∧ some k_ ≠ (v203 : Value).ownBlock) (Kd.R_keptB (HO201.out) hkp (fun k_ hk_ hs_ => (hk_.2) hs_)) (fun k_ hk_ => ⟨hk_.1.1.1.2, hk_.1.1.2, fun e_ => Or.elim (ho0.1 k_ e_.symm) (fun hs_ => hk_.2.1 hs_) (fun hn_ => Nat.not_le.2 hk_.2.2 hn_)⟩))
        have n6_ := Aside0.mk (Kd.R_mono (ok' := fun k_ => some k_ ≠ (.slice Ao134 y140.length co134 : Value).ownBlock ∧ some k_ ≠ (.slice Ao141 t146.length co141 : Value).ownBlock ∧ some k_ ≠ (.slice Ao146 t199.length co146 : Value).ownBlock) ho0 (fun k_ hk_ => ⟨Or.elim hk_ (fun hs_ => fun e_ => (((HO142.out).1 k_ e_.symm).1.2) hs_) (fun hn_ => (Kd.fresh' (Kd.R_lt (kr_ HO142)) k_ hn_)), Or.elim hk_ (fun hs_ => fun e_ => (((HO148.out).1 k_ e_.symm).1.2) hs_) (fun hn_ => (Kd.fresh' (Kd.R_lt (kr_ HO148)) k_ hn_)), Or.elim hk_ (fun hs_ => fun e_ => (((HO201.out).1 k_ e_.symm).2) hs_) (fun hn_ => (Kd.fresh' (Kd.R_lt (kr_ HO201)) k_ hn_))⟩))
        have n7_ := Aside0.mk (hb)
        clear BK138
        clear HO142
        clear HO145
        clear HO148
        clear HO195
        clear HO201
        clear HB
        clear HO198
        have BK138 := n0_
        have HO142 := n1_
        have HO145 := n2_
        have HO148 := n3_
        have HO195 := n4_
        have HO201 := n5_
        have HO204 := n6_
        have HB := n7_
        clear n0_ n1_ n2_ n3_ n4_ n5_ n6_ n7_
        (try clear hb)
        (try clear hkp)
        (try clear ho0)
        refine hK.out _ _ ⟨(blk_cell BK138.out 0).trans rfl, (blk_cell BK138.out 1).trans rfl, (blk_cell BK138.out 2).trans rfl, (blk_cell BK138.out 3).trans rfl, (blk_cell BK138.out 4).trans rfl, (blk_cell BK138.out 5).trans rfl, (blk_cell BK138.out 6).trans rfl⟩ (fun hHeld => ?_)
        clear hK K
        refine norm_ (a' := ?_) ?_ ?_
        rotate_left
        ·show Act.put _ (some 92) _ = _
         simp only [Act.put, List.setIfInBounds_toArray, List.set_cons_zero, List.set_cons_succ, i64_w, i32_w]
         rfl
        refine pure_ (i := 9) (N := some 5) (v := ?_) (a' := ?_) #[true, true, true, true, true, true, true, true, true, true] rfl rfl (any_of HT_.out (by kernel_rfl)) (fun _ _ _ h => h) (Or.inl ⟨by rfl, ?_⟩) ?_ ?_
        rotate_left
        ·intro w'
         go_simp
         with_reducible rfl
        rotate_left
        ·simp only [Act.put, List.setIfInBounds_toArray, List.set_cons_zero, List.set_cons_succ, i64_w, i32_w]
         rfl
        refine done_ (done_of HT_.out (by kernel_rfl)) ?_
        try go_wp2
        go_ret2
        exact ⟨_, er_, by (with_reducible repeat (first | apply Kd.R_alloc | apply Kd.R_drewN | apply Kd.R_drew)); exact Kd.R_mono HO204.out (fun _ hk => trivial), bl1_ HB GE138⟩
       ·rw [if_neg c121] at H
        have c121b0 : (a0_0 == 16) = false := beq_eq_false_iff_ne.mpr c121
        have c121b1 : (a0_0 != 16) = true := bne_iff_ne.mpr c121
        obtain ⟨y205, hy205⟩ : ∃ y_ : List Int, y_ = (([a0_2] : List Int)) := ⟨_, rfl⟩
        replace H : ((pdu_lay.f t146 y205).bind fun t208 => (some (t208, 0))) = some (r1, r2) := by first | (rw [hy205]; with_reducible exact H) | (have H2_ := (Option.bind_some _ _).symm.trans H; rw [hy205]; with_reducible exact H2_) | (have H2_ := (Option.bind_some _ _).symm.trans H; with_reducible exact H2_) | with_reducible exact H | (rw [hy205]; exact H) | exact H
        have Ny205 := Aside0.mk hy205
        clear hy205
        replace H := Option.bind_eq_some_iff.mp H
        obtain ⟨t208, A1480, H⟩ := H
        replace H : (some (t208, 0)) = some (r1, r2) := H
        have A148 := Aside0.mk A1480
        clear A1480
        simp only [Option.some.injEq, Prod.mk.injEq] at H
        obtain ⟨rfl, rfl⟩ := H
        go_enter Try.func30, Try.ntmps30
        go_wp2_with (first | ((with_reducible refine gate_dst (N := 1) rfl ?_); refine bx_ (N := 1) (cs := #[.int .i64 a0_0, .int .i64 a0_1, .int .i64 a0_2, .slice A0_3 l0_3.length c0_3, .int .i64 a0_4, .int .i64 a0_5, .int .i64 a0_6]) (t := 24) ?_; intro gb138 hg w149 hbox hb; have n0_ := Aside0.mk (below_step (bl0_ HB) hb); have n1_ := Aside0.mk (hbox); have n2_ := Aside0.mk ((by rw [hg]; exact (below_size (bl0_ HB)) : w.heap.size ≤ gb138)); have n3_ := Aside0.mk ((by rw [hg]; exact (below_size (bl0_ HB)) : w.heap.size ≤ gb138)); clear HB; have HB := n0_; have BK138 := n1_; have GW138 := n2_; have GE138 := n3_; clear n0_ n1_ n2_ n3_; clear hb hbox hg; refine cz7_ BK138.out ?_; intro hcz150_0 hcz150_1 hcz150_2 hcz150_3 hcz150_4 hcz150_5 hcz150_6 hfz150_0 hfz150_1 hfz150_2 hfz150_3 hfz150_4 hfz150_5 hfz150_6) | ((with_reducible refine gate_callee (f := 29) rfl ?_); refine goesL_ (some 7) rfl rfl Try.func29 (by kernel_rfl) rfl #[.agg #[.int .i64 a0_0, .int .i64 a0_1, .int .i64 a0_2, .slice A0_3 l0_3.length c0_3, .int .i64 a0_4, .int .i64 a0_5, .int .i64 a0_6]] rfl ar_ ?_; (with_reducible refine (pdu_Check.calls k a0_0 a0_1 a0_2 _ _ l0_3 a0_4 a0_5 a0_6 t139 _ ?side1 ?side2 A2.out).mono ?_); (case side1 => exact sc_ (Kd.C_below HR0_3.out HB.out)); (case side2 => exact HC0_3.out); rintro e w151 ⟨rfl, hb⟩; refine ⟨_, rfl, ?_⟩; have n0_ := Aside0.mk (blk_below (g := gb138) (bk_ BK138) hb); have n1_ := Aside0.mk (below_step (bl1_ HB GE138) hb); clear BK138; clear HB; have BK138 := n0_; have HB := n1_; clear n0_ n1_; (try clear hb); (try clear hb2); (try clear hk); (try clear hi); refine cz7_ BK138.out ?_; intro hcz152_0 hcz152_1 hcz152_2 hcz152_3 hcz152_4 hcz152_5 hcz152_6 hfz152_0 hfz152_1 hfz152_2 hfz152_3 hfz152_4 hfz152_5 hfz152_6) | ((with_reducible refine gate_dst (N := 14) rfl ?_); refine Kd.R_lit (Kd.int .u8) _ 5 ?hg (N := 14) ?hd (xs := ([(a0_0) % 256] : List Int)) (inner := [.int .u8 ((a0_0) % 256)]) (ok := fun _ => True) (okp := fun _ => True) ?hr ?hp (fun _ hk => hk) trivial (Below.refl _ _) (Nat.le_refl _) (by simp) ?_; (case hd => rfl); (case hg => rfl); (case hr => first | (go_simp; done) | (go_simp; rfl)); (case hp => exact (Reps.one (show Kd.M (Kd.int .u8) _ _ _ ((a0_0) % 256) [.int .u8 ((a0_0) % 256)] from rfl) (Reps.none _ _))); intro v141 w153 ho154 hb hg_ hnew_; clear hg_ hnew_; (first | rw [← Ny140.out] at ho154 | (simp only [Int.reduceToNat] at ho154; rw [← Ny140.out] at ho154)); have n0_ := Aside0.mk (Kd.R_lower ho154 (below_size (bl1_ HB GE138))); have n1_ := Aside0.mk (blk_below (g := gb138) (bk_ BK138) hb); have n2_ := Aside0.mk (below_step (bl1_ HB GE138) hb); clear BK138; clear HB; have HO142 := n0_; have BK138 := n1_; have HB := n2_; clear n0_ n1_ n2_; clear hb ho154; refine cz7_ BK138.out ?_; intro hcz155_0 hcz155_1 hcz155_2 hcz155_3 hcz155_4 hcz155_5 hcz155_6 hfz155_0 hfz155_1 hfz155_2 hfz155_3 hfz155_4 hfz155_5 hfz155_6) | ((with_reducible refine gate_dst (N := 17) rfl ?_); refine Kd.R_lit (Kd.int .i64) _ 3 ?hg (N := 17) ?hd (xs := ([a0_1] : List Int)) (inner := [.int .i64 a0_1]) (ok := fun _ => True) (okp := fun _ => True) ?hr ?hp (fun _ hk => hk) trivial (Below.refl _ _) (Nat.le_refl _) (by simp) ?_; (case hd => rfl); (case hg => rfl); (case hr => first | (go_simp; done) | (go_simp; rfl)); (case hp => exact (Reps.one (show Kd.M (Kd.int .i64) _ _ _ a0_1 [.int .i64 a0_1] from rfl) (Reps.none _ _))); intro v144 w156 ho157 hb hg_ hnew_; clear hg_ hnew_; (first | rw [← Ny143.out] at ho157 | (simp only [Int.reduceToNat] at ho157; rw [← Ny143.out] at ho157)); have n0_ := Aside0.mk (Kd.R_below (kr_ HO142) hb); have n1_ := Aside0.mk (Kd.R_lower ho157 (below_size (bl1_ HB GE138))); have n2_ := Aside0.mk (blk_below (g := gb138) (bk_ BK138) hb); have n3_ := Aside0.mk (below_step (bl1_ HB GE138) hb); clear HO142; clear BK138; clear HB; have HO142 := n0_; have HO145 := n1_; have BK138 := n2_; have HB := n3_; clear n0_ n1_ n2_ n3_; clear hb ho157; obtain ⟨Ao158, co158, eo158⟩ := Kd.R_slice HO142.out; subst eo158; obtain ⟨Ao159, co159, eo159⟩ := Kd.R_slice HO145.out; subst eo159) | ((with_reducible refine gate_callee (f := 53) rfl ?_); refine goesL_ (some 18) rfl rfl Try.func53 (by kernel_rfl) rfl #[.slice Ao158 y140.length co158, .slice Ao159 y143.length co159] rfl ar_ ?_; (with_reducible refine (pdu_lay.calls _ _ y140 _ _ y143 t146 _ ?side1 ?side2 ?side3 ?side4 A4.out).mono ?_); (case side1 => exact sc_ (Kd.R_reads' HO142.out).2.2); (case side2 => exact (Kd.R_reads' HO142.out).2.1); (case side3 => exact sc_ (Kd.R_reads' HO145.out).2.2); (case side4 => exact (Kd.R_reads' HO145.out).2.1); rintro e w160 ⟨v147, rfl, ho0, hb⟩; refine ⟨_, rfl, ?_⟩; have n0_ := Aside0.mk (Kd.R_elder' (kr_ HO142) (Kd.R_base ho0) hb); have n1_ := Aside0.mk (Kd.R_below (kr_ HO145) hb); have n2_ := Aside0.mk (Kd.R_lower (Kd.R_new' ho0 (Kd.R_lt (kr_ HO142))) (below_size (bl1_ HB GE138))); have n3_ := Aside0.mk (blk_below (g := gb138) (bk_ BK138) hb); have n4_ := Aside0.mk (below_step (bl1_ HB GE138) hb); clear HO142; clear HO145; clear BK138; clear HB; have HO142 := n0_; have HO145 := n1_; have HO148 := n2_; have BK138 := n3_; have HB := n4_; clear n0_ n1_ n2_ n3_ n4_; (try clear hb); (try clear hb2); (try clear hk); (try clear hi); (try clear ho0); refine cz7_ BK138.out ?_; intro hcz161_0 hcz161_1 hcz161_2 hcz161_3 hcz161_4 hcz161_5 hcz161_6 hfz161_0 hfz161_1 hfz161_2 hfz161_3 hfz161_4 hfz161_5 hfz161_6) | ((with_reducible refine gate_dst (N := 24) rfl ?_); refine Kd.R_lit (Kd.int .i64) _ 3 ?hg (N := 24) ?hd (xs := ([a0_2] : List Int)) (inner := [.int .i64 a0_2]) (ok := fun _ => True) (okp := fun _ => True) ?hr ?hp (fun _ hk => hk) trivial (Below.refl _ _) (Nat.le_refl _) (by simp) ?_; (case hd => rfl); (case hg => rfl); (case hr => first | (go_simp; done) | (go_simp; rfl)); (case hp => exact (Reps.one (show Kd.M (Kd.int .i64) _ _ _ a0_2 [.int .i64 a0_2] from rfl) (Reps.none _ _))); intro v206 w162 ho163 hb hg_ hnew_; clear hg_ hnew_; (first | rw [← Ny205.out] at ho163 | (simp only [Int.reduceToNat] at ho163; rw [← Ny205.out] at ho163)); have n0_ := Aside0.mk (Kd.R_below (kr_ HO142) hb); have n1_ := Aside0.mk (Kd.R_elder' (kr_ HO145) (Kd.R_base ho163) hb); have n2_ := Aside0.mk (Kd.R_below (kr_ HO148) hb); have n3_ := Aside0.mk (Kd.R_lower (Kd.R_new' ho163 (Kd.R_lt (kr_ HO145))) (below_size (bl1_ HB GE138))); have n4_ := Aside0.mk (blk_below (g := gb138) (bk_ BK138) hb); have n5_ := Aside0.mk (below_step (bl1_ HB GE138) hb); clear HO142; clear HO145; clear HO148; clear BK138; clear HB; have HO142 := n0_; have HO145 := n1_; have HO148 := n2_; have HO207 := n3_; have BK138 := n4_; have HB := n5_; clear n0_ n1_ n2_ n3_ n4_ n5_; clear hb ho163; obtain ⟨Ao164, co164, eo164⟩ := Kd.R_slice HO148.out; subst eo164; obtain ⟨Ao165, co165, eo165⟩ := Kd.R_slice HO207.out; subst eo165) | ((with_reducible refine gate_callee (f := 53) rfl ?_); refine goesL_ (some 25) rfl rfl Try.func53 (by kernel_rfl) rfl #[.slice Ao164 t146.length co164, .slice Ao165 y205.length co165] rfl ar_ ?_; (with_reducible refine (pdu_lay.calls _ _ t146 _ _ y205 t208 _ ?side1 ?side2 ?side3 ?side4 A148.out).mono ?_); (case side1 => exact sc_ (Kd.R_reads' HO148.out).2.2); (case side2 => exact (Kd.R_reads' HO148.out).2.1); (case side3 => exact sc_ (Kd.R_reads' HO207.out).2.2); (case side4 => exact (Kd.R_reads' HO207.out).2.1); rintro e w166 ⟨v209, rfl, ho0, hb⟩; refine ⟨_, rfl, ?_⟩; have n0_ := Aside0.mk (Kd.R_elder' (kr_ HO142) (Kd.R_base ho0) hb); have n1_ := Aside0.mk (Kd.R_below (kr_ HO145) hb); have n2_ := Aside0.mk (Kd.R_elder' (kr_ HO148) (Kd.R_base ho0) hb); have n3_ := Aside0.mk (Kd.R_below (kr_ HO207) hb); have n4_ := Aside0.mk (Kd.R_lower (Kd.R_new' (Kd.R_new' ho0 (Kd.R_lt (kr_ HO142))) (Kd.R_lt (kr_ HO148))) (below_size (bl1_ HB GE138))); have n5_ := Aside0.mk (blk_below (g := gb138) (bk_ BK138) hb); have n6_ := Aside0.mk (below_step (bl1_ HB GE138) hb); clear HO142; clear HO145; clear HO148; clear HO207; clear BK138; clear HB; have HO142 := n0_; have HO145 := n1_; have HO148 := n2_; have HO207 := n3_; have HO210 := n4_; have BK138 := n5_; have HB := n6_; clear n0_ n1_ n2_ n3_ n4_ n5_ n6_; (try clear hb); (try clear hb2); (try clear hk); (try clear hi); (try clear ho0)))
        go_ret2
        exact ⟨_, er_, by (with_reducible repeat (first | apply Kd.R_alloc | apply Kd.R_drewN | apply Kd.R_drew)); exact Kd.R_mono HO210.out (fun _ hk => trivial), bl1_ HB GE138⟩
 ·rw [if_neg c3] at H
  have c3b0 : (t139 == 0) = false := beq_eq_false_iff_ne.mpr c3
  have c3b1 : (t139 != 0) = true := bne_iff_ne.mpr c3
  simp only [Option.some.injEq, Prod.mk.injEq] at H
  obtain ⟨rfl, rfl⟩ := H
  go_enter Try.func30, Try.ntmps30
  go_wp2_with (first | ((with_reducible refine gate_dst (N := 1) rfl ?_); refine bx_ (N := 1) (cs := #[.int .i64 a0_0, .int .i64 a0_1, .int .i64 a0_2, .slice A0_3 l0_3.length c0_3, .int .i64 a0_4, .int .i64 a0_5, .int .i64 a0_6]) (t := 24) ?_; intro gb138 hg w167 hbox hb; have n0_ := Aside0.mk (below_step (bl0_ HB) hb); have n1_ := Aside0.mk (hbox); have n2_ := Aside0.mk ((by rw [hg]; exact (below_size (bl0_ HB)) : w.heap.size ≤ gb138)); have n3_ := Aside0.mk ((by rw [hg]; exact (below_size (bl0_ HB)) : w.heap.size ≤ gb138)); clear HB; have HB := n0_; have BK138 := n1_; have GW138 := n2_; have GE138 := n3_; clear n0_ n1_ n2_ n3_; clear hb hbox hg; refine cz7_ BK138.out ?_; intro hcz168_0 hcz168_1 hcz168_2 hcz168_3 hcz168_4 hcz168_5 hcz168_6 hfz168_0 hfz168_1 hfz168_2 hfz168_3 hfz168_4 hfz168_5 hfz168_6) | ((with_reducible refine gate_callee (f := 29) rfl ?_); refine goesL_ (some 7) rfl rfl Try.func29 (by kernel_rfl) rfl #[.agg #[.int .i64 a0_0, .int .i64 a0_1, .int .i64 a0_2, .slice A0_3 l0_3.length c0_3, .int .i64 a0_4, .int .i64 a0_5, .int .i64 a0_6]] rfl ar_ ?_; (with_reducible refine (pdu_Check.calls k a0_0 a0_1 a0_2 _ _ l0_3 a0_4 a0_5 a0_6 t139 _ ?side1 ?side2 A2.out).mono ?_); (case side1 => exact sc_ (Kd.C_below HR0_3.out HB.out)); (case side2 => exact HC0_3.out); rintro e w169 ⟨rfl, hb⟩; refine ⟨_, rfl, ?_⟩; have n0_ := Aside0.mk (blk_below (g := gb138) (bk_ BK138) hb); have n1_ := Aside0.mk (below_step (bl1_ HB GE138) hb); clear BK138; clear HB; have BK138 := n0_; have HB := n1_; clear n0_ n1_; (try clear hb); (try clear hb2); (try clear hk); (try clear hi)))
  go_ret2
  exact ⟨_, er_, by first | exact Kd.R_nil _ _ _ _ _ | exact Kd.N_nil _ _ _ _ _ | exact Kd.V_nil _ _ _ _ _ | exact Kd.Q_nil _ _ _ _ _ | exact Kd.S_nil _ _ _ _ _, bl1_ HB GE138⟩
end Go.Proofs.Ytocicifgglkaeaa.PQ
end

section
namespace Go.Proofs.Ytocicifgglkaeaa.PQ
open Go.RowKit Go.Proofs.YtocicifgglkaeaaW.PrintWords Go.Proofs.YtocicifgglkaeaaW.PrintLast Go.Proofs.YtocicifgglkaeaaW.PrintMore
attribute [local go_sem] max2_int min2_int max_two min_two max_three min_three max_four min_four   
set_option linter.unusedVariables false
set_option linter.unusedSimpArgs false
open Go.Proofs.Ytocicifgglkaeaa.Ext Go.Proofs.Ytocicifgglkaeaa.PP Go.Proofs.Ytocicifgglkaeaa.ExtF
def pdu_answer.j0 : Nat → Int → Bool → Int → Int → Int → List Int → Int → Int → Int → List Int → Int → Option (Bool)
 | 0, _, _, _, _, _, _, _, _, _, _, _ => none
 | k + 1, x18, x19, x212000, x212001, x212002, x212003, x212004, x212005, x212006, x213000, x213001 => if x19 = true then ((pdu_some.f k x213000 x212002 x212002 1).bind fun t214 => (some t214)) else (if x18 = 3 then ((pdu_some.f k x213000 x212002 x212002 65535).bind fun t215 => (some t215)) else (if x18 = 4 then ((pdu_some.f k x213000 x212002 x212002 65535).bind fun t216 => (some t216)) else (if x18 = 23 then ((pdu_some.f k x213000 x212002 x212002 65535).bind fun t217 => (some t217)) else (some ((x213000.length : Int) == 0)))))
def pdu_answer.f (k : Nat) (a0_0 : Int) (a0_1 : Int) (a0_2 : Int) (l0_3 : List Int) (a0_4 : Int) (a0_5 : Int) (a0_6 : Int) (l1_0 : List Int) (a1_1 : Int) : Option (Bool) := if a1_1 = 0 then (if a0_0 = 1 then (pdu_answer.j0 k a0_0 (a0_0 == 1) a0_0 a0_1 a0_2 l0_3 a0_4 a0_5 a0_6 l1_0 a1_1) else (pdu_answer.j0 k a0_0 (a0_0 == 2) a0_0 a0_1 a0_2 l0_3 a0_4 a0_5 a0_6 l1_0 a1_1)) else ((pdu_within.f a1_1 1 255).bind fun t213 => (if t213 = true then (some ((l1_0.length : Int) == 0)) else (some false)))
theorem pdu_answer.mono_l : ∀ k, (∀ y0 y1 y2 y3 y4 y5 y6 y7 y8 y9 y10, LeO (pdu_answer.j0 k y0 y1 y2 y3 y4 y5 y6 y7 y8 y9 y10) (pdu_answer.j0 (k + 1) y0 y1 y2 y3 y4 y5 y6 y7 y8 y9 y10))
 | 0 => fun _ _ _ _ _ _ _ _ _ _ _ r h => by simp [pdu_answer.j0] at h
 | k + 1 => by
  have ih0 := pdu_answer.mono_l k
  ·intro y0 y1 y2 y3 y4 y5 y6 y7 y8 y9 y10
   unfold pdu_answer.j0
   repeat' first
   | (with_reducible exact ih0 _ _ _ _ _ _ _ _ _ _ _)
   | (with_reducible exact pdu_some.mono _ _ _ _ _)
   | (with_reducible exact LeO.refl _)
   | (with_reducible exact LeO.none _)
   | (with_reducible refine LeO.ite ?_ ?_)
   | (with_reducible refine LeO.bind ?_ (fun _ => ?_))
   | exact ih0 _ _ _ _ _ _ _ _ _ _ _
   | exact pdu_some.mono _ _ _ _ _
   | exact LeO.none _
   | refine LeO.ite ?_ ?_
   | refine LeO.bind ?_ (fun _ => ?_)
theorem pdu_answer.mono : ∀ a0 a1 a2 a3 a4 a5 a6 a7 a8 k, LeO (pdu_answer.f k a0 a1 a2 a3 a4 a5 a6 a7 a8) (pdu_answer.f (k + 1) a0 a1 a2 a3 a4 a5 a6 a7 a8) := by
 intro a0 a1 a2 a3 a4 a5 a6 a7 a8 k
 have ih0 := pdu_answer.mono_l k
 unfold pdu_answer.f
 repeat' first
  | (with_reducible exact ih0 _ _ _ _ _ _ _ _ _ _ _)
  | (with_reducible exact pdu_some.mono _ _ _ _ _)
  | (with_reducible exact LeO.refl _)
  | (with_reducible exact LeO.none _)
  | (with_reducible refine LeO.ite ?_ ?_)
  | (with_reducible refine LeO.bind ?_ (fun _ => ?_))
  | exact ih0 _ _ _ _ _ _ _ _ _ _ _
  | exact pdu_some.mono _ _ _ _ _
  | exact LeO.none _
  | refine LeO.ite ?_ ?_
  | refine LeO.bind ?_ (fun _ => ?_)
set_option maxHeartbeats 8000000 in
set_option maxRecDepth 100000 in
theorem pdu_answer.calls (k : Nat) (a0_0 : Int) (a0_1 : Int) (a0_2 : Int) (A0_3 : Option Addr) (c0_3 : Nat) (l0_3 : List Int) (a0_4 : Int) (a0_5 : Int) (a0_6 : Int) (A1_0 : Option Addr) (c1_0 : Nat) (l1_0 : List Int) (a1_1 : Int) (r : Bool) (w : World) (hr0_3 : Kd.C (Kd.int .i64) w A0_3 l0_3.length l0_3) (hc0_3 : l0_3.length ≤ c0_3) (hr1_0 : Kd.C (Kd.int .i64) w A1_0 l1_0.length l1_0) (hc1_0 : l1_0.length ≤ c1_0) (h : pdu_answer.f k a0_0 a0_1 a0_2 l0_3 a0_4 a0_5 a0_6 l1_0 a1_1 = some r) :
 Calls Try.prog 66 #[.agg #[.int .i64 a0_0, .int .i64 a0_1, .int .i64 a0_2, .slice A0_3 l0_3.length c0_3, .int .i64 a0_4, .int .i64 a0_5, .int .i64 a0_6], .agg #[.slice A1_0 l1_0.length c1_0, .int .i64 a1_1]] w fun e w' => e = .returned (.bool r) ∧ Below w.heap.size w w' := by
 have hu24 := Try.underlying24
 have hu30 := Try.underlying30
 have HR0_3 := Aside0.mk hr0_3
 have HC0_3 := Aside0.mk hc0_3
 clear hr0_3 hc0_3
 have HR1_0 := Aside0.mk hr1_0
 have HC1_0 := Aside0.mk hc1_0
 clear hr1_0 hc1_0
 have HB := Aside0.mk (Below.refl w.heap.size w)
 have H : (if a1_1 = 0 then (if a0_0 = 1 then (pdu_answer.j0 k a0_0 (a0_0 == 1) a0_0 a0_1 a0_2 l0_3 a0_4 a0_5 a0_6 l1_0 a1_1) else (pdu_answer.j0 k a0_0 (a0_0 == 2) a0_0 a0_1 a0_2 l0_3 a0_4 a0_5 a0_6 l1_0 a1_1)) else ((pdu_within.f a1_1 1 255).bind fun t213 => (if t213 = true then (some ((l1_0.length : Int) == 0)) else (some false)))) = some r := h
 clear h
 by_cases c3 : a1_1 = 0
 ·rw [if_pos c3] at H
  have c3b0 : (a1_1 == 0) = true := beq_iff_eq.mpr c3
  have c3b1 : (a1_1 != 0) = false := bne_eq_false_iff_eq.mpr c3
  clear c3
  have HC4 := Aside0.mk H
  clear H
  go_enter Try.func66, Try.ntmps66
  go_upto_if 19 with (first | ((with_reducible refine gate_dst (N := 2) rfl ?_); (try (refine gate_guard (by rfl) ?_; dsimp only)); refine bx_ (N := 2) (cs := #[.int .i64 a0_0, .int .i64 a0_1, .int .i64 a0_2, .slice A0_3 l0_3.length c0_3, .int .i64 a0_4, .int .i64 a0_5, .int .i64 a0_6]) (t := 24) ?_; intro gb211 hg w5 hbox hb; have n0_ := Aside0.mk (below_step (bl0_ HB) hb); have n1_ := Aside0.mk (hbox); have n2_ := Aside0.mk ((by rw [hg]; exact (below_size (bl0_ HB)) : w.heap.size ≤ gb211)); have n3_ := Aside0.mk ((by rw [hg]; exact (below_size (bl0_ HB)) : w.heap.size ≤ gb211)); clear HB; have HB := n0_; have BK211 := n1_; have GW211 := n2_; have GE211 := n3_; clear n0_ n1_ n2_ n3_; clear hb hbox hg) | ((with_reducible refine gate_dst (N := 3) rfl ?_); (try (refine gate_guard (by rfl) ?_; dsimp only)); refine bx_ (N := 3) (cs := #[.slice A1_0 l1_0.length c1_0, .int .i64 a1_1]) (t := 30) ?_; intro gb212 hg w6 hbox hb; have n0_ := Aside0.mk (blk_below (g := gb211) (bk_ BK211) hb); have n1_ := Aside0.mk (below_step (bl1_ HB GE211) hb); have n2_ := Aside0.mk (hbox); have n3_ := Aside0.mk ((by rw [hg]; exact (below_size (bl1_ HB GE211)) : w.heap.size ≤ gb212)); have n4_ := Aside0.mk ((by rw [hg]; exact (below_size (bl1_ HB GE211)) : w.heap.size ≤ gb212)); have n5_ := Aside0.mk ((by rw [hg]; exact Nat.ne_of_lt (blk_lt (g := gb211) (bk_ BK211)) : gb211 ≠ gb212)); have n6_ := Aside0.mk ((by rw [hg]; exact Nat.ne_of_gt (blk_lt (g := gb211) (bk_ BK211)) : gb212 ≠ gb211)); clear BK211; clear HB; have BK211 := n0_; have HB := n1_; have BK212 := n2_; have GW212 := n3_; have GE212 := n4_; have NB211_212 := n5_; have NB212_211 := n6_; clear n0_ n1_ n2_ n3_ n4_ n5_ n6_; clear hb hbox hg; have hnb7 := NB212_211.out; have hnc7 := NB211_212.out; refine cz2_ BK212.out ?_; intro hcz8_0 hcz8_1 hfz8_0 hfz8_1; refine cz7_ BK211.out ?_; intro hcz9_0 hcz9_1 hcz9_2 hcz9_3 hcz9_4 hcz9_5 hcz9_6 hfz9_0 hfz9_1 hfz9_2 hfz9_3 hfz9_4 hfz9_5 hfz9_6))
  (try simp only [Act.put, List.setIfInBounds_toArray, List.set_cons_zero, List.set_cons_succ])
  go_cut [19] (fun v19 wc => ∃ (kq : Nat) (x19_3 : Bool), v19 = .bool x19_3 ∧ Aside0 (pdu_answer.j0 kq a0_0 x19_3 a0_0 a0_1 a0_2 l0_3 a0_4 a0_5 a0_6 l1_0 a1_1 = some r) ∧ Aside0 (kq ≤ k) ∧ Aside0 (wc.heap[gb211]? = some (.cells #[.int .i64 a0_0, .int .i64 a0_1, .int .i64 a0_2, (.slice A0_3 l0_3.length c0_3), .int .i64 a0_4, .int .i64 a0_5, .int .i64 a0_6] 24 (0, 0))) ∧ Aside0 (wc.heap[gb212]? = some (.cells #[(.slice A1_0 l1_0.length c1_0), .int .i64 a1_1] 30 (0, 0))) ∧ Aside0 (Below w.heap.size w wc))
  case first =>
   have H := HC4.out
   clear HC4
   by_cases c10 : a0_0 = 1
   ·rw [if_pos c10] at H
    have c10b0 : (a0_0 == 1) = true := beq_iff_eq.mpr c10
    have c10b1 : (a0_0 != 1) = false := bne_eq_false_iff_eq.mpr c10
    clear c10
    (first | rw [c10b0] | (simp only [i64_w, i32_w]; rw [c10b0]) | skip)
    have H' := Aside0.mk H
    clear H
    go_wp2
    go_meet
    case rel => exact ⟨_, ((a0_0 == 1)), (by first | rfl | (simp; done) | (simp [*]; done)), H', ⟨by first | omega | exact Nat.le_refl _⟩, ⟨bk_ BK211⟩, ⟨bk_ BK212⟩, ⟨bl2_ HB GE211 GE212⟩⟩
   ·rw [if_neg c10] at H
    have c10b0 : (a0_0 == 1) = false := beq_eq_false_iff_ne.mpr c10
    have c10b1 : (a0_0 != 1) = true := bne_iff_ne.mpr c10
    (first | rw [c10b0] | (simp only [i64_w, i32_w]; rw [c10b0]) | skip)
    have H' := Aside0.mk H
    clear H
    go_wp2
    go_meet
    case rel => exact ⟨_, ((a0_0 == 2)), (by first | rfl | (simp; done) | (simp [*]; done)), H', ⟨by first | omega | exact Nat.le_refl _⟩, ⟨bk_ BK211⟩, ⟨bk_ BK212⟩, ⟨bl2_ HB GE211 GE212⟩⟩
  case rest =>
   clear HC4
   try clear c1
   try clear p2
   try clear c3
   try clear c3b0
   try clear c3b1
   try clear c6
   try clear c7
   try clear c10
   try clear c10b0
   try clear c10b1
   try clear hcz8_0 hcz8_1
   try clear hcz9_0 hcz9_1 hcz9_2 hcz9_3 hcz9_4 hcz9_5 hcz9_6
   try clear hfz8_0 hfz8_1
   try clear hfz9_0 hfz9_1 hfz9_2 hfz9_3 hfz9_4 hfz9_5 hfz9_6
   obtain ⟨kq, x19_3, rfl, HA, HJ3, BK211, BK212, HB⟩ := hcut
   cases kq with
   | zero => exact absurd HA.out (by simp [pdu_answer.j0])
   | succ kj3 =>
    have H := HA.out
    clear HA
    simp only [pdu_answer.j0] at H
    by_cases c11 : x19_3 = true
    ·subst c11
     have H1 : ((pdu_some.f kj3 l1_0 a0_2 a0_2 1).bind fun t214 => (some t214)) = some r := by rw [if_pos rfl] at H; exact H
     clear H
     have H := H1
     clear H1
     replace H := Option.bind_eq_some_iff.mp H
     obtain ⟨t214, A120, H⟩ := H
     replace H : (some t214) = some r := H
     have A12 := Aside0.mk A120
     clear A120
     obtain rfl := Option.some.inj H
     have hnb13 := NB212_211.out
     have hnc13 := NB211_212.out
     refine cz2_ BK212.out ?_; intro hcz14_0 hcz14_1 hfz14_0 hfz14_1
     refine cz7_ BK211.out ?_; intro hcz15_0 hcz15_1 hcz15_2 hcz15_3 hcz15_4 hcz15_5 hcz15_6 hfz15_0 hfz15_1 hfz15_2 hfz15_3 hfz15_4 hfz15_5 hfz15_6
     go_wp2_with (first | ((with_reducible refine gate_callee (f := 51) rfl ?_); refine goesL_ (some 28) rfl rfl Try.func51 (by kernel_rfl) rfl #[.slice A1_0 l1_0.length c1_0, .int .i64 a0_2, .int .i64 a0_2, .int .i64 1] rfl ar_ ?_; (with_reducible refine (pdu_some.calls kj3 _ _ l1_0 a0_2 a0_2 1 t214 _ ?side1 ?side2 A12.out).mono ?_); (case side1 => exact sc_ (Kd.C_below HR1_0.out HB.out)); (case side2 => exact HC1_0.out); rintro e w' ⟨rfl, ⟨nd, rfl⟩⟩; refine ⟨_, rfl, ?_⟩))
     go_ret
     exact ⟨er_, bl2_ HB GE211 GE212⟩
    ·replace c11 := Bool.eq_false_iff.mpr c11
     subst c11
     have H1 : (if a0_0 = 3 then ((pdu_some.f kj3 l1_0 a0_2 a0_2 65535).bind fun t215 => (some t215)) else (if a0_0 = 4 then ((pdu_some.f kj3 l1_0 a0_2 a0_2 65535).bind fun t216 => (some t216)) else (if a0_0 = 23 then ((pdu_some.f kj3 l1_0 a0_2 a0_2 65535).bind fun t217 => (some t217)) else (some ((l1_0.length : Int) == 0))))) = some r := by rw [if_neg (show ¬ (false = true) by decide)] at H; exact H
     clear H
     have H := H1
     clear H1
     by_cases c16 : a0_0 = 3
     ·rw [if_pos c16] at H
      have c16b0 : (a0_0 == 3) = true := beq_iff_eq.mpr c16
      have c16b1 : (a0_0 != 3) = false := bne_eq_false_iff_eq.mpr c16
      clear c16
      replace H := Option.bind_eq_some_iff.mp H
      obtain ⟨t215, A170, H⟩ := H
      replace H : (some t215) = some r := H
      have A17 := Aside0.mk A170
      clear A170
      obtain rfl := Option.some.inj H
      have hnb18 := NB212_211.out
      have hnc18 := NB211_212.out
      refine cz2_ BK212.out ?_; intro hcz19_0 hcz19_1 hfz19_0 hfz19_1
      refine cz7_ BK211.out ?_; intro hcz20_0 hcz20_1 hcz20_2 hcz20_3 hcz20_4 hcz20_5 hcz20_6 hfz20_0 hfz20_1 hfz20_2 hfz20_3 hfz20_4 hfz20_5 hfz20_6
      go_wp2_with (first | ((with_reducible refine gate_callee (f := 51) rfl ?_); refine goesL_ (some 39) rfl rfl Try.func51 (by kernel_rfl) rfl #[.slice A1_0 l1_0.length c1_0, .int .i64 a0_2, .int .i64 a0_2, .int .i64 65535] rfl ar_ ?_; (with_reducible refine (pdu_some.calls kj3 _ _ l1_0 a0_2 a0_2 65535 t215 _ ?side1 ?side2 A17.out).mono ?_); (case side1 => exact sc_ (Kd.C_below HR1_0.out HB.out)); (case side2 => exact HC1_0.out); rintro e w' ⟨rfl, ⟨nd, rfl⟩⟩; refine ⟨_, rfl, ?_⟩))
      go_ret
      exact ⟨er_, bl2_ HB GE211 GE212⟩
     ·rw [if_neg c16] at H
      have c16b0 : (a0_0 == 3) = false := beq_eq_false_iff_ne.mpr c16
      have c16b1 : (a0_0 != 3) = true := bne_iff_ne.mpr c16
      by_cases c21 : a0_0 = 4
      ·rw [if_pos c21] at H
       have c21b0 : (a0_0 == 4) = true := beq_iff_eq.mpr c21
       have c21b1 : (a0_0 != 4) = false := bne_eq_false_iff_eq.mpr c21
       clear c21
       replace H := Option.bind_eq_some_iff.mp H
       obtain ⟨t216, A220, H⟩ := H
       replace H : (some t216) = some r := H
       have A22 := Aside0.mk A220
       clear A220
       obtain rfl := Option.some.inj H
       have hnb23 := NB212_211.out
       have hnc23 := NB211_212.out
       refine cz2_ BK212.out ?_; intro hcz24_0 hcz24_1 hfz24_0 hfz24_1
       refine cz7_ BK211.out ?_; intro hcz25_0 hcz25_1 hcz25_2 hcz25_3 hcz25_4 hcz25_5 hcz25_6 hfz25_0 hfz25_1 hfz25_2 hfz25_3 hfz25_4 hfz25_5 hfz25_6
       go_wp2_with (first | ((with_reducible refine gate_callee (f := 51) rfl ?_); refine goesL_ (some 39) rfl rfl Try.func51 (by kernel_rfl) rfl #[.slice A1_0 l1_0.length c1_0, .int .i64 a0_2, .int .i64 a0_2, .int .i64 65535] rfl ar_ ?_; (with_reducible refine (pdu_some.calls kj3 _ _ l1_0 a0_2 a0_2 65535 t216 _ ?side1 ?side2 A22.out).mono ?_); (case side1 => exact sc_ (Kd.C_below HR1_0.out HB.out)); (case side2 => exact HC1_0.out); rintro e w' ⟨rfl, ⟨nd, rfl⟩⟩; refine ⟨_, rfl, ?_⟩))
       go_ret
       exact ⟨er_, bl2_ HB GE211 GE212⟩
      ·rw [if_neg c21] at H
       have c21b0 : (a0_0 == 4) = false := beq_eq_false_iff_ne.mpr c21
       have c21b1 : (a0_0 != 4) = true := bne_iff_ne.mpr c21
       by_cases c26 : a0_0 = 23
       ·rw [if_pos c26] at H
        have c26b0 : (a0_0 == 23) = true := beq_iff_eq.mpr c26
        have c26b1 : (a0_0 != 23) = false := bne_eq_false_iff_eq.mpr c26
        clear c26
        replace H := Option.bind_eq_some_iff.mp H
        obtain ⟨t217, A270, H⟩ := H
        replace H : (some t217) = some r := H
        have A27 := Aside0.mk A270
        clear A270
        obtain rfl := Option.some.inj H
        have hnb28 := NB212_211.out
        have hnc28 := NB211_212.out
        refine cz2_ BK212.out ?_; intro hcz29_0 hcz29_1 hfz29_0 hfz29_1
        refine cz7_ BK211.out ?_; intro hcz30_0 hcz30_1 hcz30_2 hcz30_3 hcz30_4 hcz30_5 hcz30_6 hfz30_0 hfz30_1 hfz30_2 hfz30_3 hfz30_4 hfz30_5 hfz30_6
        go_wp2_with (first | ((with_reducible refine gate_callee (f := 51) rfl ?_); refine goesL_ (some 39) rfl rfl Try.func51 (by kernel_rfl) rfl #[.slice A1_0 l1_0.length c1_0, .int .i64 a0_2, .int .i64 a0_2, .int .i64 65535] rfl ar_ ?_; (with_reducible refine (pdu_some.calls kj3 _ _ l1_0 a0_2 a0_2 65535 t217 _ ?side1 ?side2 A27.out).mono ?_); (case side1 => exact sc_ (Kd.C_below HR1_0.out HB.out)); (case side2 => exact HC1_0.out); rintro e w' ⟨rfl, ⟨nd, rfl⟩⟩; refine ⟨_, rfl, ?_⟩))
        go_ret
        exact ⟨er_, bl2_ HB GE211 GE212⟩
       ·rw [if_neg c26] at H
        have c26b0 : (a0_0 == 23) = false := beq_eq_false_iff_ne.mpr c26
        have c26b1 : (a0_0 != 23) = true := bne_iff_ne.mpr c26
        obtain rfl := Option.some.inj H
        have hnb31 := NB212_211.out
        have hnc31 := NB211_212.out
        refine cz2_ BK212.out ?_; intro hcz32_0 hcz32_1 hfz32_0 hfz32_1
        go_wp2
        go_ret
        exact ⟨er_, bl2_ HB GE211 GE212⟩
 ·rw [if_neg c3] at H
  have c3b0 : (a1_1 == 0) = false := beq_eq_false_iff_ne.mpr c3
  have c3b1 : (a1_1 != 0) = true := bne_iff_ne.mpr c3
  replace H := Option.bind_eq_some_iff.mp H
  obtain ⟨t213, A330, H⟩ := H
  replace H : (if t213 = true then (some ((l1_0.length : Int) == 0)) else (some false)) = some r := H
  have A33 := Aside0.mk A330
  clear A330
  by_cases c34 : t213 = true
  ·subst c34
   have H1 : (some ((l1_0.length : Int) == 0)) = some r := by rw [if_pos rfl] at H; exact H
   clear H
   have H := H1
   clear H1
   obtain rfl := Option.some.inj H
   go_enter Try.func66, Try.ntmps66
   go_wp2_with (first | ((with_reducible refine gate_dst (N := 2) rfl ?_); (try (refine gate_guard (by rfl) ?_; dsimp only)); refine bx_ (N := 2) (cs := #[.int .i64 a0_0, .int .i64 a0_1, .int .i64 a0_2, .slice A0_3 l0_3.length c0_3, .int .i64 a0_4, .int .i64 a0_5, .int .i64 a0_6]) (t := 24) ?_; intro gb211 hg w35 hbox hb; have n0_ := Aside0.mk (below_step (bl0_ HB) hb); have n1_ := Aside0.mk (hbox); have n2_ := Aside0.mk ((by rw [hg]; exact (below_size (bl0_ HB)) : w.heap.size ≤ gb211)); have n3_ := Aside0.mk ((by rw [hg]; exact (below_size (bl0_ HB)) : w.heap.size ≤ gb211)); clear HB; have HB := n0_; have BK211 := n1_; have GW211 := n2_; have GE211 := n3_; clear n0_ n1_ n2_ n3_; clear hb hbox hg) | ((with_reducible refine gate_dst (N := 3) rfl ?_); (try (refine gate_guard (by rfl) ?_; dsimp only)); refine bx_ (N := 3) (cs := #[.slice A1_0 l1_0.length c1_0, .int .i64 a1_1]) (t := 30) ?_; intro gb212 hg w36 hbox hb; have n0_ := Aside0.mk (blk_below (g := gb211) (bk_ BK211) hb); have n1_ := Aside0.mk (below_step (bl1_ HB GE211) hb); have n2_ := Aside0.mk (hbox); have n3_ := Aside0.mk ((by rw [hg]; exact (below_size (bl1_ HB GE211)) : w.heap.size ≤ gb212)); have n4_ := Aside0.mk ((by rw [hg]; exact (below_size (bl1_ HB GE211)) : w.heap.size ≤ gb212)); have n5_ := Aside0.mk ((by rw [hg]; exact Nat.ne_of_lt (blk_lt (g := gb211) (bk_ BK211)) : gb211 ≠ gb212)); have n6_ := Aside0.mk ((by rw [hg]; exact Nat.ne_of_gt (blk_lt (g := gb211) (bk_ BK211)) : gb212 ≠ gb211)); clear BK211; clear HB; have BK211 := n0_; have HB := n1_; have BK212 := n2_; have GW212 := n3_; have GE212 := n4_; have NB211_212 := n5_; have NB212_211 := n6_; clear n0_ n1_ n2_ n3_ n4_ n5_ n6_; clear hb hbox hg; have hnb37 := NB212_211.out; have hnc37 := NB211_212.out; refine cz2_ BK212.out ?_; intro hcz38_0 hcz38_1 hfz38_0 hfz38_1) | ((with_reducible refine gate_callee (f := 49) rfl ?_); refine goesL_ (some 10) rfl rfl Try.func49 (by kernel_rfl) rfl #[.int .i64 a1_1, .int .i64 1, .int .i64 255] rfl ar_ ?_; (with_reducible refine (pdu_within.calls a1_1 1 255 true _ A33.out).mono ?_); rintro e w' ⟨rfl, ⟨nd, rfl⟩⟩; refine ⟨_, rfl, ?_⟩))
   go_ret
   exact ⟨er_, bl2_ HB GE211 GE212⟩
  ·replace c34 := Bool.eq_false_iff.mpr c34
   subst c34
   have H1 : (some false) = some r := by rw [if_neg (show ¬ (false = true) by decide)] at H; exact H
   clear H
   have H := H1
   clear H1
   obtain rfl := Option.some.inj H
   go_enter Try.func66, Try.ntmps66
   go_wp2_with (first | ((with_reducible refine gate_dst (N := 2) rfl ?_); (try (refine gate_guard (by rfl) ?_; dsimp only)); refine bx_ (N := 2) (cs := #[.int .i64 a0_0, .int .i64 a0_1, .int .i64 a0_2, .slice A0_3 l0_3.length c0_3, .int .i64 a0_4, .int .i64 a0_5, .int .i64 a0_6]) (t := 24) ?_; intro gb211 hg w39 hbox hb; have n0_ := Aside0.mk (below_step (bl0_ HB) hb); have n1_ := Aside0.mk (hbox); have n2_ := Aside0.mk ((by rw [hg]; exact (below_size (bl0_ HB)) : w.heap.size ≤ gb211)); have n3_ := Aside0.mk ((by rw [hg]; exact (below_size (bl0_ HB)) : w.heap.size ≤ gb211)); clear HB; have HB := n0_; have BK211 := n1_; have GW211 := n2_; have GE211 := n3_; clear n0_ n1_ n2_ n3_; clear hb hbox hg) | ((with_reducible refine gate_dst (N := 3) rfl ?_); (try (refine gate_guard (by rfl) ?_; dsimp only)); refine bx_ (N := 3) (cs := #[.slice A1_0 l1_0.length c1_0, .int .i64 a1_1]) (t := 30) ?_; intro gb212 hg w40 hbox hb; have n0_ := Aside0.mk (blk_below (g := gb211) (bk_ BK211) hb); have n1_ := Aside0.mk (below_step (bl1_ HB GE211) hb); have n2_ := Aside0.mk (hbox); have n3_ := Aside0.mk ((by rw [hg]; exact (below_size (bl1_ HB GE211)) : w.heap.size ≤ gb212)); have n4_ := Aside0.mk ((by rw [hg]; exact (below_size (bl1_ HB GE211)) : w.heap.size ≤ gb212)); have n5_ := Aside0.mk ((by rw [hg]; exact Nat.ne_of_lt (blk_lt (g := gb211) (bk_ BK211)) : gb211 ≠ gb212)); have n6_ := Aside0.mk ((by rw [hg]; exact Nat.ne_of_gt (blk_lt (g := gb211) (bk_ BK211)) : gb212 ≠ gb211)); clear BK211; clear HB; have BK211 := n0_; have HB := n1_; have BK212 := n2_; have GW212 := n3_; have GE212 := n4_; have NB211_212 := n5_; have NB212_211 := n6_; clear n0_ n1_ n2_ n3_ n4_ n5_ n6_; clear hb hbox hg; have hnb41 := NB212_211.out; have hnc41 := NB211_212.out; refine cz2_ BK212.out ?_; intro hcz42_0 hcz42_1 hfz42_0 hfz42_1) | ((with_reducible refine gate_callee (f := 49) rfl ?_); refine goesL_ (some 10) rfl rfl Try.func49 (by kernel_rfl) rfl #[.int .i64 a1_1, .int .i64 1, .int .i64 255] rfl ar_ ?_; (with_reducible refine (pdu_within.calls a1_1 1 255 false _ A33.out).mono ?_); rintro e w' ⟨rfl, ⟨nd, rfl⟩⟩; refine ⟨_, rfl, ?_⟩))
   go_ret
   exact ⟨er_, bl2_ HB GE211 GE212⟩
end Go.Proofs.Ytocicifgglkaeaa.PQ
end

section
namespace Go.Proofs.Ytocicifgglkaeaa.PQ
open Go.RowKit Go.Proofs.YtocicifgglkaeaaW.PrintWords Go.Proofs.YtocicifgglkaeaaW.PrintLast Go.Proofs.YtocicifgglkaeaaW.PrintMore
attribute [local go_sem] max2_int min2_int max_two min_two max_three min_three max_four min_four   
set_option linter.unusedVariables false
set_option linter.unusedSimpArgs false
open Go.Proofs.Ytocicifgglkaeaa.Ext Go.Proofs.Ytocicifgglkaeaa.PP Go.Proofs.Ytocicifgglkaeaa.ExtF
mutual
def pdu_AnswerBytes.j0 : Nat → Bool → Int → Int → Int → List Int → Int → Int → Int → List Int → Int → Option (List Int × Int)
 | 0, _, _, _, _, _, _, _, _, _, _ => none
 | k + 1, x15, x219000, x219001, x219002, x219003, x219004, x219005, x219006, x220000, x220001 => if x15 = true then (some (([] : List Int), 1)) else (if x220001 = 0 then ((some (([(x219000) % 256] : List Int) : List Int)).bind fun y225 => (if x219000 = 1 then (pdu_AnswerBytes.j1 k y225 x219000 (x219000 == 1) x219000 x219001 x219002 x219003 x219004 x219005 x219006 x220000 x220001) else (pdu_AnswerBytes.j1 k y225 x219000 (x219000 == 2) x219000 x219001 x219002 x219003 x219004 x219005 x219006 x220000 x220001))) else (some ((([Go.bits .or .u8 ((x219000) % 256) 128, (x220001) % 256] : List Int)), 0)))
def pdu_AnswerBytes.j1 : Nat → List Int → Int → Bool → Int → Int → Int → List Int → Int → Int → Int → List Int → Int → Option (List Int × Int)
 | 0, _, _, _, _, _, _, _, _, _, _, _, _ => none
 | k + 1, x6, x32, x33, x219000, x219001, x219002, x219003, x219004, x219005, x219006, x220000, x220001 => if x33 = true then ((pdu_packed.f k x220000).bind fun t228 => ((pdu_counted.f x6 t228).bind fun t231 => (some (t231, 0)))) else (if x32 = 3 then (pdu_AnswerBytes.j2 k x6 x32 (x32 == 3) x219000 x219001 x219002 x219003 x219004 x219005 x219006 x220000 x220001) else (if x32 = 4 then (pdu_AnswerBytes.j2 k x6 x32 (x32 == 4) x219000 x219001 x219002 x219003 x219004 x219005 x219006 x220000 x220001) else (pdu_AnswerBytes.j2 k x6 x32 (x32 == 23) x219000 x219001 x219002 x219003 x219004 x219005 x219006 x220000 x220001)))
def pdu_AnswerBytes.j2 : Nat → List Int → Int → Bool → Int → Int → Int → List Int → Int → Int → Int → List Int → Int → Option (List Int × Int)
 | 0, _, _, _, _, _, _, _, _, _, _, _, _ => none
 | k + 1, x6, x32, x41, x219000, x219001, x219002, x219003, x219004, x219005, x219006, x220000, x220001 => if x41 = true then ((pdu_lay.f ([] : List Int) x220000).bind fun t234 => ((pdu_counted.f x6 t234).bind fun t237 => (some (t237, 0)))) else (if x32 = 15 then (pdu_AnswerBytes.j3 k x6 (x32 == 15) x219000 x219001 x219002 x219003 x219004 x219005 x219006) else (pdu_AnswerBytes.j3 k x6 (x32 == 16) x219000 x219001 x219002 x219003 x219004 x219005 x219006))
def pdu_AnswerBytes.j3 : Nat → List Int → Bool → Int → Int → Int → List Int → Int → Int → Int → Option (List Int × Int)
 | 0, _, _, _, _, _, _, _, _, _ => none
 | k + 1, x6, x50, x219000, x219001, x219002, x219003, x219004, x219005, x219006 => if x50 = true then ((pdu_lay.f x6 (([x219001, x219002] : List Int))).bind fun t243 => (some (t243, 0))) else ((pdu_Bytes.f k x219000 x219001 x219002 x219003 x219004 x219005 x219006).bind fun bt246 => (some (bt246.1, bt246.2)))
end
def pdu_AnswerBytes.f (k : Nat) (a0_0 : Int) (a0_1 : Int) (a0_2 : Int) (l0_3 : List Int) (a0_4 : Int) (a0_5 : Int) (a0_6 : Int) (l1_0 : List Int) (a1_1 : Int) : Option (List Int × Int) := (pdu_Check.f k a0_0 a0_1 a0_2 l0_3 a0_4 a0_5 a0_6).bind fun t220 => (if t220 = 0 then ((pdu_answer.f k a0_0 a0_1 a0_2 l0_3 a0_4 a0_5 a0_6 l1_0 a1_1).bind fun t221 => (pdu_AnswerBytes.j0 k (!t221) a0_0 a0_1 a0_2 l0_3 a0_4 a0_5 a0_6 l1_0 a1_1)) else (pdu_AnswerBytes.j0 k true a0_0 a0_1 a0_2 l0_3 a0_4 a0_5 a0_6 l1_0 a1_1))
theorem pdu_AnswerBytes.mono_l : ∀ k, (∀ y0 y1 y2 y3 y4 y5 y6 y7 y8 y9, LeO (pdu_AnswerBytes.j0 k y0 y1 y2 y3 y4 y5 y6 y7 y8 y9) (pdu_AnswerBytes.j0 (k + 1) y0 y1 y2 y3 y4 y5 y6 y7 y8 y9)) ∧ (∀ y0 y1 y2 y3 y4 y5 y6 y7 y8 y9 y10 y11, LeO (pdu_AnswerBytes.j1 k y0 y1 y2 y3 y4 y5 y6 y7 y8 y9 y10 y11) (pdu_AnswerBytes.j1 (k + 1) y0 y1 y2 y3 y4 y5 y6 y7 y8 y9 y10 y11)) ∧ (∀ y0 y1 y2 y3 y4 y5 y6 y7 y8 y9 y10 y11, LeO (pdu_AnswerBytes.j2 k y0 y1 y2 y3 y4 y5 y6 y7 y8 y9 y10 y11) (pdu_AnswerBytes.j2 (k + 1) y0 y1 y2 y3 y4 y5 y6 y7 y8 y9 y10 y11)) ∧ (∀ y0 y1 y2 y3 y4 y5 y6 y7 y8, LeO (pdu_AnswerBytes.j3 k y0 y1 y2 y3 y4 y5 y6 y7 y8) (pdu_AnswerBytes.j3 (k + 1) y0 y1 y2 y3 y4 y5 y6 y7 y8))
 | 0 => ⟨fun _ _ _ _ _ _ _ _ _ _ r h => by simp [pdu_AnswerBytes.j0] at h, fun _ _ _ _ _ _ _ _ _ _ _ _ r h => by simp [pdu_AnswerBytes.j1] at h, fun _ _ _ _ _ _ _ _ _ _ _ _ r h => by simp [pdu_AnswerBytes.j2] at h, fun _ _ _ _ _ _ _ _ _ r h => by simp [pdu_AnswerBytes.j3] at h⟩
 | k + 1 => by
  obtain ⟨ih0, ih1, ih2, ih3⟩ := pdu_AnswerBytes.mono_l k
  refine ⟨?_, ?_, ?_, ?_⟩
  ·intro y0 y1 y2 y3 y4 y5 y6 y7 y8 y9
   unfold pdu_AnswerBytes.j0
   repeat' first
   | (with_reducible exact ih0 _ _ _ _ _ _ _ _ _ _)
   | (with_reducible exact ih1 _ _ _ _ _ _ _ _ _ _ _ _)
   | (with_reducible exact ih2 _ _ _ _ _ _ _ _ _ _ _ _)
   | (with_reducible exact ih3 _ _ _ _ _ _ _ _ _)
   | (with_reducible exact pdu_Bytes.mono _ _ _ _ _ _ _ _)
   | (with_reducible exact pdu_Check.mono _ _ _ _ _ _ _ _)
   | (with_reducible exact pdu_answer.mono _ _ _ _ _ _ _ _ _ _)
   | (with_reducible exact pdu_packed.mono _ _)
   | (with_reducible exact LeO.refl _)
   | (with_reducible exact LeO.none _)
   | (with_reducible refine LeO.ite ?_ ?_)
   | (with_reducible refine LeO.bind ?_ (fun _ => ?_))
   | exact ih0 _ _ _ _ _ _ _ _ _ _
   | exact ih1 _ _ _ _ _ _ _ _ _ _ _ _
   | exact ih2 _ _ _ _ _ _ _ _ _ _ _ _
   | exact ih3 _ _ _ _ _ _ _ _ _
   | exact pdu_Bytes.mono _ _ _ _ _ _ _ _
   | exact pdu_Check.mono _ _ _ _ _ _ _ _
   | exact pdu_answer.mono _ _ _ _ _ _ _ _ _ _
   | exact pdu_packed.mono _ _
   | exact LeO.none _
   | refine LeO.ite ?_ ?_
   | refine LeO.bind ?_ (fun _ => ?_)
  ·intro y0 y1 y2 y3 y4 y5 y6 y7 y8 y9 y10 y11
   unfold pdu_AnswerBytes.j1
   repeat' first
   | (with_reducible exact ih0 _ _ _ _ _ _ _ _ _ _)
   | (with_reducible exact ih1 _ _ _ _ _ _ _ _ _ _ _ _)
   | (with_reducible exact ih2 _ _ _ _ _ _ _ _ _ _ _ _)
   | (with_reducible exact ih3 _ _ _ _ _ _ _ _ _)
   | (with_reducible exact pdu_Bytes.mono _ _ _ _ _ _ _ _)
   | (with_reducible exact pdu_Check.mono _ _ _ _ _ _ _ _)
   | (with_reducible exact pdu_answer.mono _ _ _ _ _ _ _ _ _ _)
   | (with_reducible exact pdu_packed.mono _ _)
   | (with_reducible exact LeO.refl _)
   | (with_reducible exact LeO.none _)
   | (with_reducible refine LeO.ite ?_ ?_)
   | (with_reducible refine LeO.bind ?_ (fun _ => ?_))
   | exact ih0 _ _ _ _ _ _ _ _ _ _
   | exact ih1 _ _ _ _ _ _ _ _ _ _ _ _
   | exact ih2 _ _ _ _ _ _ _ _ _ _ _ _
   | exact ih3 _ _ _ _ _ _ _ _ _
   | exact pdu_Bytes.mono _ _ _ _ _ _ _ _
   | exact pdu_Check.mono _ _ _ _ _ _ _ _
   | exact pdu_answer.mono _ _ _ _ _ _ _ _ _ _
   | exact pdu_packed.mono _ _
   | exact LeO.none _
   | refine LeO.ite ?_ ?_
   | refine LeO.bind ?_ (fun _ => ?_)
  ·intro y0 y1 y2 y3 y4 y5 y6 y7 y8 y9 y10 y11
   unfold pdu_AnswerBytes.j2
   repeat' first
   | (with_reducible exact ih0 _ _ _ _ _ _ _ _ _ _)
   | (with_reducible exact ih1 _ _ _ _ _ _ _ _ _ _ _ _)
   | (with_reducible exact ih2 _ _ _ _ _ _ _ _ _ _ _ _)
   | (with_reducible exact ih3 _ _ _ _ _ _ _ _ _)
   | (with_reducible exact pdu_Bytes.mono _ _ _ _ _ _ _ _)
   | (with_reducible exact pdu_Check.mono _ _ _ _ _ _ _ _)
   | (with_reducible exact pdu_answer.mono _ _ _ _ _ _ _ _ _ _)
   | (with_reducible exact pdu_packed.mono _ _)
   | (with_reducible exact LeO.refl _)
   | (with_reducible exact LeO.none _)
   | (with_reducible refine LeO.ite ?_ ?_)
   | (with_reducible refine LeO.bind ?_ (fun _ => ?_))
   | exact ih0 _ _ _ _ _ _ _ _ _ _
   | exact ih1 _ _ _ _ _ _ _ _ _ _ _ _
   | exact ih2 _ _ _ _ _ _ _ _ _ _ _ _
   | exact ih3 _ _ _ _ _ _ _ _ _
   | exact pdu_Bytes.mono _ _ _ _ _ _ _ _
   | exact pdu_Check.mono _ _ _ _ _ _ _ _
   | exact pdu_answer.mono _ _ _ _ _ _ _ _ _ _
   | exact pdu_packed.mono _ _
   | exact LeO.none _
   | refine LeO.ite ?_ ?_
   | refine LeO.bind ?_ (fun _ => ?_)
  ·intro y0 y1 y2 y3 y4 y5 y6 y7 y8
   unfold pdu_AnswerBytes.j3
   repeat' first
   | (with_reducible exact ih0 _ _ _ _ _ _ _ _ _ _)
   | (with_reducible exact ih1 _ _ _ _ _ _ _ _ _ _ _ _)
   | (with_reducible exact ih2 _ _ _ _ _ _ _ _ _ _ _ _)
   | (with_reducible exact ih3 _ _ _ _ _ _ _ _ _)
   | (with_reducible exact pdu_Bytes.mono _ _ _ _ _ _ _ _)
   | (with_reducible exact pdu_Check.mono _ _ _ _ _ _ _ _)
   | (with_reducible exact pdu_answer.mono _ _ _ _ _ _ _ _ _ _)
   | (with_reducible exact pdu_packed.mono _ _)
   | (with_reducible exact LeO.refl _)
   | (with_reducible exact LeO.none _)
   | (with_reducible refine LeO.ite ?_ ?_)
   | (with_reducible refine LeO.bind ?_ (fun _ => ?_))
   | exact ih0 _ _ _ _ _ _ _ _ _ _
   | exact ih1 _ _ _ _ _ _ _ _ _ _ _ _
   | exact ih2 _ _ _ _ _ _ _ _ _ _ _ _
   | exact ih3 _ _ _ _ _ _ _ _ _
   | exact pdu_Bytes.mono _ _ _ _ _ _ _ _
   | exact pdu_Check.mono _ _ _ _ _ _ _ _
   | exact pdu_answer.mono _ _ _ _ _ _ _ _ _ _
   | exact pdu_packed.mono _ _
   | exact LeO.none _
   | refine LeO.ite ?_ ?_
   | refine LeO.bind ?_ (fun _ => ?_)
theorem pdu_AnswerBytes.mono : ∀ a0 a1 a2 a3 a4 a5 a6 a7 a8 k, LeO (pdu_AnswerBytes.f k a0 a1 a2 a3 a4 a5 a6 a7 a8) (pdu_AnswerBytes.f (k + 1) a0 a1 a2 a3 a4 a5 a6 a7 a8) := by
 intro a0 a1 a2 a3 a4 a5 a6 a7 a8 k
 obtain ⟨ih0, ih1, ih2, ih3⟩ := pdu_AnswerBytes.mono_l k
 unfold pdu_AnswerBytes.f
 repeat' first
  | (with_reducible exact ih0 _ _ _ _ _ _ _ _ _ _)
  | (with_reducible exact ih1 _ _ _ _ _ _ _ _ _ _ _ _)
  | (with_reducible exact ih2 _ _ _ _ _ _ _ _ _ _ _ _)
  | (with_reducible exact ih3 _ _ _ _ _ _ _ _ _)
  | (with_reducible exact pdu_Bytes.mono _ _ _ _ _ _ _ _)
  | (with_reducible exact pdu_Check.mono _ _ _ _ _ _ _ _)
  | (with_reducible exact pdu_answer.mono _ _ _ _ _ _ _ _ _ _)
  | (with_reducible exact pdu_packed.mono _ _)
  | (with_reducible exact LeO.refl _)
  | (with_reducible exact LeO.none _)
  | (with_reducible refine LeO.ite ?_ ?_)
  | (with_reducible refine LeO.bind ?_ (fun _ => ?_))
  | exact ih0 _ _ _ _ _ _ _ _ _ _
  | exact ih1 _ _ _ _ _ _ _ _ _ _ _ _
  | exact ih2 _ _ _ _ _ _ _ _ _ _ _ _
  | exact ih3 _ _ _ _ _ _ _ _ _
  | exact pdu_Bytes.mono _ _ _ _ _ _ _ _
  | exact pdu_Check.mono _ _ _ _ _ _ _ _
  | exact pdu_answer.mono _ _ _ _ _ _ _ _ _ _
  | exact pdu_packed.mono _ _
  | exact LeO.none _
  | refine LeO.ite ?_ ?_
  | refine LeO.bind ?_ (fun _ => ?_)
set_option maxHeartbeats 8000000 in
set_option maxRecDepth 100000 in
theorem pdu_AnswerBytes.calls (k : Nat) (a0_0 : Int) (a0_1 : Int) (a0_2 : Int) (A0_3 : Option Addr) (c0_3 : Nat) (l0_3 : List Int) (a0_4 : Int) (a0_5 : Int) (a0_6 : Int) (A1_0 : Option Addr) (c1_0 : Nat) (l1_0 : List Int) (a1_1 : Int) (r1 : List Int) (r2 : Int) (w : World) (hr0_3 : Kd.C (Kd.int .i64) w A0_3 l0_3.length l0_3) (hc0_3 : l0_3.length ≤ c0_3) (hr1_0 : Kd.C (Kd.int .i64) w A1_0 l1_0.length l1_0) (hc1_0 : l1_0.length ≤ c1_0) (h : pdu_AnswerBytes.f k a0_0 a0_1 a0_2 l0_3 a0_4 a0_5 a0_6 l1_0 a1_1 = some (r1, r2)) :
 Calls Try.prog 36 #[.agg #[.int .i64 a0_0, .int .i64 a0_1, .int .i64 a0_2, .slice A0_3 l0_3.length c0_3, .int .i64 a0_4, .int .i64 a0_5, .int .i64 a0_6], .agg #[.slice A1_0 l1_0.length c1_0, .int .i64 a1_1]] w fun e w' => ∃ v0_ : Value, e = .returned (.tuple #[v0_, .int .i64 r2]) ∧ Kd.R (Kd.int .u8) 5 w' w.heap.size (fun _ => True) v0_ r1 ∧ Below w.heap.size w w' := by
 have hu24 := Try.underlying24
 have hu30 := Try.underlying30
 have HR0_3 := Aside0.mk hr0_3
 have HC0_3 := Aside0.mk hc0_3
 clear hr0_3 hc0_3
 have HR1_0 := Aside0.mk hr1_0
 have HC1_0 := Aside0.mk hc1_0
 clear hr1_0 hc1_0
 have HB := Aside0.mk (Below.refl w.heap.size w)
 have H : ((pdu_Check.f k a0_0 a0_1 a0_2 l0_3 a0_4 a0_5 a0_6).bind fun t220 => (if t220 = 0 then ((pdu_answer.f k a0_0 a0_1 a0_2 l0_3 a0_4 a0_5 a0_6 l1_0 a1_1).bind fun t221 => (pdu_AnswerBytes.j0 k (!t221) a0_0 a0_1 a0_2 l0_3 a0_4 a0_5 a0_6 l1_0 a1_1)) else (pdu_AnswerBytes.j0 k true a0_0 a0_1 a0_2 l0_3 a0_4 a0_5 a0_6 l1_0 a1_1))) = some (r1, r2) := h
 clear h
 have HC3 := Aside0.mk H
 clear H
 go_enter Try.func36, Try.ntmps36
 go_upto_region 1 with (first | ((with_reducible refine gate_dst (N := 2) rfl ?_); refine bx_ (N := 2) (cs := #[.int .i64 a0_0, .int .i64 a0_1, .int .i64 a0_2, .slice A0_3 l0_3.length c0_3, .int .i64 a0_4, .int .i64 a0_5, .int .i64 a0_6]) (t := 24) ?_; intro gb218 hg w4 hbox hb; have n0_ := Aside0.mk (below_step (bl0_ HB) hb); have n1_ := Aside0.mk (hbox); have n2_ := Aside0.mk ((by rw [hg]; exact (below_size (bl0_ HB)) : w.heap.size ≤ gb218)); have n3_ := Aside0.mk ((by rw [hg]; exact (below_size (bl0_ HB)) : w.heap.size ≤ gb218)); clear HB; have HB := n0_; have BK218 := n1_; have GW218 := n2_; have GE218 := n3_; clear n0_ n1_ n2_ n3_; clear hb hbox hg) | ((with_reducible refine gate_dst (N := 3) rfl ?_); refine bx_ (N := 3) (cs := #[.slice A1_0 l1_0.length c1_0, .int .i64 a1_1]) (t := 30) ?_; intro gb219 hg w5 hbox hb; have n0_ := Aside0.mk (blk_below (g := gb218) (bk_ BK218) hb); have n1_ := Aside0.mk (below_step (bl1_ HB GE218) hb); have n2_ := Aside0.mk (hbox); have n3_ := Aside0.mk ((by rw [hg]; exact (below_size (bl1_ HB GE218)) : w.heap.size ≤ gb219)); have n4_ := Aside0.mk ((by rw [hg]; exact (below_size (bl1_ HB GE218)) : w.heap.size ≤ gb219)); have n5_ := Aside0.mk ((by rw [hg]; exact Nat.ne_of_lt (blk_lt (g := gb218) (bk_ BK218)) : gb218 ≠ gb219)); have n6_ := Aside0.mk ((by rw [hg]; exact Nat.ne_of_gt (blk_lt (g := gb218) (bk_ BK218)) : gb219 ≠ gb218)); clear BK218; clear HB; have BK218 := n0_; have HB := n1_; have BK219 := n2_; have GW219 := n3_; have GE219 := n4_; have NB218_219 := n5_; have NB219_218 := n6_; clear n0_ n1_ n2_ n3_ n4_ n5_ n6_; clear hb hbox hg))
 (try simp only [Act.put, List.setIfInBounds_toArray, List.set_cons_zero, List.set_cons_succ])
 go_cut [15] (fun v15 wc => ∃ (kq : Nat) (x15_2 : Bool), v15 = .bool x15_2 ∧ Aside0 (pdu_AnswerBytes.j0 kq x15_2 a0_0 a0_1 a0_2 l0_3 a0_4 a0_5 a0_6 l1_0 a1_1 = some (r1, r2)) ∧ Aside0 (kq ≤ k) ∧ Aside0 (wc.heap[gb218]? = some (.cells #[.int .i64 a0_0, .int .i64 a0_1, .int .i64 a0_2, (.slice A0_3 l0_3.length c0_3), .int .i64 a0_4, .int .i64 a0_5, .int .i64 a0_6] 24 (0, 0))) ∧ Aside0 (wc.heap[gb219]? = some (.cells #[(.slice A1_0 l1_0.length c1_0), .int .i64 a1_1] 30 (0, 0))) ∧ Aside0 (Below w.heap.size w wc))
 case first =>
  have H := HC3.out
  clear HC3
  replace H := Option.bind_eq_some_iff.mp H
  obtain ⟨t220, A60, H⟩ := H
  replace H : (if t220 = 0 then ((pdu_answer.f k a0_0 a0_1 a0_2 l0_3 a0_4 a0_5 a0_6 l1_0 a1_1).bind fun t221 => (pdu_AnswerBytes.j0 k (!t221) a0_0 a0_1 a0_2 l0_3 a0_4 a0_5 a0_6 l1_0 a1_1)) else (pdu_AnswerBytes.j0 k true a0_0 a0_1 a0_2 l0_3 a0_4 a0_5 a0_6 l1_0 a1_1)) = some (r1, r2) := H
  have A6 := Aside0.mk A60
  clear A60
  by_cases c7 : t220 = 0
  ·rw [if_pos c7] at H
   have c7b0 : (t220 == 0) = true := beq_iff_eq.mpr c7
   have c7b1 : (t220 != 0) = false := bne_eq_false_iff_eq.mpr c7
   clear c7
   (first | rw [c7b0] | (simp only [i64_w, i32_w]; rw [c7b0]) | skip)
   replace H := Option.bind_eq_some_iff.mp H
   obtain ⟨t221, A80, H⟩ := H
   replace H : (pdu_AnswerBytes.j0 k (!t221) a0_0 a0_1 a0_2 l0_3 a0_4 a0_5 a0_6 l1_0 a1_1) = some (r1, r2) := H
   have A8 := Aside0.mk A80
   clear A80
   have H' := Aside0.mk H
   clear H
   have hnb9 := NB218_219.out
   have hnc9 := NB219_218.out
   refine cz7_ BK218.out ?_; intro hcz10_0 hcz10_1 hcz10_2 hcz10_3 hcz10_4 hcz10_5 hcz10_6 hfz10_0 hfz10_1 hfz10_2 hfz10_3 hfz10_4 hfz10_5 hfz10_6
   go_wp2_with (first | ((with_reducible refine gate_callee (f := 29) rfl ?_); refine goesL_ (some 8) rfl rfl Try.func29 (by kernel_rfl) rfl #[.agg #[.int .i64 a0_0, .int .i64 a0_1, .int .i64 a0_2, .slice A0_3 l0_3.length c0_3, .int .i64 a0_4, .int .i64 a0_5, .int .i64 a0_6]] rfl ar_ ?_; (with_reducible refine (pdu_Check.calls k a0_0 a0_1 a0_2 _ _ l0_3 a0_4 a0_5 a0_6 t220 _ ?side1 ?side2 A6.out).mono ?_); (case side1 => exact sc_ (Kd.C_below HR0_3.out HB.out)); (case side2 => exact HC0_3.out); rintro e w11 ⟨rfl, hb⟩; refine ⟨_, rfl, ?_⟩; have n0_ := Aside0.mk (blk_below (g := gb218) (bk_ BK218) hb); have n1_ := Aside0.mk (blk_below (g := gb219) (bk_ BK219) hb); have n2_ := Aside0.mk (below_step (bl2_ HB GE218 GE219) hb); clear BK218; clear BK219; clear HB; have BK218 := n0_; have BK219 := n1_; have HB := n2_; clear n0_ n1_ n2_; (try clear hb); (try clear hb2); (try clear hk); (try clear hi); refine cz7_ BK218.out ?_; intro hcz12_0 hcz12_1 hcz12_2 hcz12_3 hcz12_4 hcz12_5 hcz12_6 hfz12_0 hfz12_1 hfz12_2 hfz12_3 hfz12_4 hfz12_5 hfz12_6; refine cz2_ BK219.out ?_; intro hcz13_0 hcz13_1 hfz13_0 hfz13_1) | (go_at_call 66; (with_reducible refine (pdu_answer.calls k a0_0 a0_1 a0_2 _ _ l0_3 a0_4 a0_5 a0_6 _ _ l1_0 a1_1 t221 _ ?side1 ?side2 ?side3 ?side4 A8.out).mono ?_); (case side1 => exact sc_ (Kd.C_below HR0_3.out HB.out)); (case side2 => exact HC0_3.out); (case side3 => exact sc_ (Kd.C_below HR1_0.out HB.out)); (case side4 => exact HC1_0.out); rintro e w14 ⟨rfl, hb⟩; have n0_ := Aside0.mk (blk_below (g := gb218) (bk_ BK218) hb); have n1_ := Aside0.mk (blk_below (g := gb219) (bk_ BK219) hb); have n2_ := Aside0.mk (below_step (bl2_ HB GE218 GE219) hb); clear BK218; clear BK219; clear HB; have BK218 := n0_; have BK219 := n1_; have HB := n2_; clear n0_ n1_ n2_; (try clear hb); (try clear hb2); (try clear hk); (try clear hi)))
   go_meet
   case rel => exact ⟨_, (!t221), (by first | rfl | (simp; done) | (simp [*]; done)), H', ⟨by first | omega | exact Nat.le_refl _⟩, ⟨bk_ BK218⟩, ⟨bk_ BK219⟩, ⟨bl2_ HB GE218 GE219⟩⟩
  ·rw [if_neg c7] at H
   have c7b0 : (t220 == 0) = false := beq_eq_false_iff_ne.mpr c7
   have c7b1 : (t220 != 0) = true := bne_iff_ne.mpr c7
   (first | rw [c7b0] | (simp only [i64_w, i32_w]; rw [c7b0]) | skip)
   have H' := Aside0.mk H
   clear H
   have hnb15 := NB218_219.out
   have hnc15 := NB219_218.out
   refine cz7_ BK218.out ?_; intro hcz16_0 hcz16_1 hcz16_2 hcz16_3 hcz16_4 hcz16_5 hcz16_6 hfz16_0 hfz16_1 hfz16_2 hfz16_3 hfz16_4 hfz16_5 hfz16_6
   go_wp2_with (first | ((with_reducible refine gate_callee (f := 29) rfl ?_); refine goesL_ (some 8) rfl rfl Try.func29 (by kernel_rfl) rfl #[.agg #[.int .i64 a0_0, .int .i64 a0_1, .int .i64 a0_2, .slice A0_3 l0_3.length c0_3, .int .i64 a0_4, .int .i64 a0_5, .int .i64 a0_6]] rfl ar_ ?_; (with_reducible refine (pdu_Check.calls k a0_0 a0_1 a0_2 _ _ l0_3 a0_4 a0_5 a0_6 t220 _ ?side1 ?side2 A6.out).mono ?_); (case side1 => exact sc_ (Kd.C_below HR0_3.out HB.out)); (case side2 => exact HC0_3.out); rintro e w17 ⟨rfl, hb⟩; refine ⟨_, rfl, ?_⟩; have n0_ := Aside0.mk (blk_below (g := gb218) (bk_ BK218) hb); have n1_ := Aside0.mk (blk_below (g := gb219) (bk_ BK219) hb); have n2_ := Aside0.mk (below_step (bl2_ HB GE218 GE219) hb); clear BK218; clear BK219; clear HB; have BK218 := n0_; have BK219 := n1_; have HB := n2_; clear n0_ n1_ n2_; (try clear hb); (try clear hb2); (try clear hk); (try clear hi)))
   go_meet
   case rel => exact ⟨_, (true), (by first | rfl | (simp; done) | (simp [*]; done)), H', ⟨by first | omega | exact Nat.le_refl _⟩, ⟨bk_ BK218⟩, ⟨bk_ BK219⟩, ⟨bl2_ HB GE218 GE219⟩⟩
 case rest =>
  clear HC3
  try clear c1
  try clear c2
  try clear p2
  try clear c3
  try clear c7
  try clear c7b0
  try clear c7b1
  try clear c9
  try clear c15
  try clear hcz10_0 hcz10_1 hcz10_2 hcz10_3 hcz10_4 hcz10_5 hcz10_6
  try clear hcz12_0 hcz12_1 hcz12_2 hcz12_3 hcz12_4 hcz12_5 hcz12_6
  try clear hcz13_0 hcz13_1
  try clear hcz16_0 hcz16_1 hcz16_2 hcz16_3 hcz16_4 hcz16_5 hcz16_6
  try clear hfz10_0 hfz10_1 hfz10_2 hfz10_3 hfz10_4 hfz10_5 hfz10_6
  try clear hfz12_0 hfz12_1 hfz12_2 hfz12_3 hfz12_4 hfz12_5 hfz12_6
  try clear hfz13_0 hfz13_1
  try clear hfz16_0 hfz16_1 hfz16_2 hfz16_3 hfz16_4 hfz16_5 hfz16_6
  obtain ⟨kq, x15_2, rfl, HA, HJ2, BK218, BK219, HB⟩ := hcut
  cases kq with
  | zero => exact absurd HA.out (by simp [pdu_AnswerBytes.j0])
  | succ kj2 =>
   have H := HA.out
   clear HA
   simp only [pdu_AnswerBytes.j0] at H
   by_cases c18 : x15_2 = true
   ·subst c18
    have H1 : (some (([] : List Int), 1)) = some (r1, r2) := by rw [if_pos rfl] at H; exact H
    clear H
    have H := H1
    clear H1
    simp only [Option.some.injEq, Prod.mk.injEq] at H
    obtain ⟨rfl, rfl⟩ := H
    go_wp2
    go_ret2
    exact ⟨_, er_, by first | exact Kd.R_nil _ _ _ _ _ | exact Kd.N_nil _ _ _ _ _ | exact Kd.V_nil _ _ _ _ _ | exact Kd.Q_nil _ _ _ _ _ | exact Kd.S_nil _ _ _ _ _, bl2_ HB GE218 GE219⟩
   ·replace c18 := Bool.eq_false_iff.mpr c18
    subst c18
    have H1 : (if a1_1 = 0 then ((some (([(a0_0) % 256] : List Int) : List Int)).bind fun y225 => (if a0_0 = 1 then (pdu_AnswerBytes.j1 kj2 y225 a0_0 (a0_0 == 1) a0_0 a0_1 a0_2 l0_3 a0_4 a0_5 a0_6 l1_0 a1_1) else (pdu_AnswerBytes.j1 kj2 y225 a0_0 (a0_0 == 2) a0_0 a0_1 a0_2 l0_3 a0_4 a0_5 a0_6 l1_0 a1_1))) else (some ((([Go.bits .or .u8 ((a0_0) % 256) 128, (a1_1) % 256] : List Int)), 0))) = some (r1, r2) := by rw [if_neg (show ¬ (false = true) by decide)] at H; exact H
    clear H
    have H := H1
    clear H1
    by_cases c19 : a1_1 = 0
    ·rw [if_pos c19] at H
     have c19b0 : (a1_1 == 0) = true := beq_iff_eq.mpr c19
     have c19b1 : (a1_1 != 0) = false := bne_eq_false_iff_eq.mpr c19
     clear c19
     obtain ⟨y225, hy225⟩ : ∃ y_ : List Int, y_ = (([(a0_0) % 256] : List Int)) := ⟨_, rfl⟩
     replace H : (if a0_0 = 1 then (pdu_AnswerBytes.j1 kj2 y225 a0_0 (a0_0 == 1) a0_0 a0_1 a0_2 l0_3 a0_4 a0_5 a0_6 l1_0 a1_1) else (pdu_AnswerBytes.j1 kj2 y225 a0_0 (a0_0 == 2) a0_0 a0_1 a0_2 l0_3 a0_4 a0_5 a0_6 l1_0 a1_1)) = some (r1, r2) := by first | (rw [hy225]; with_reducible exact H) | (have H2_ := (Option.bind_some _ _).symm.trans H; rw [hy225]; with_reducible exact H2_) | (have H2_ := (Option.bind_some _ _).symm.trans H; with_reducible exact H2_) | with_reducible exact H | (rw [hy225]; exact H) | exact H
     have Ny225 := Aside0.mk hy225
     clear hy225
     have HC20 := Aside0.mk H
     clear H
     have hnb21 := NB219_218.out
     have hnc21 := NB218_219.out
     refine cz2_ BK219.out ?_; intro hcz22_0 hcz22_1 hfz22_0 hfz22_1
     refine cz7_ BK218.out ?_; intro hcz23_0 hcz23_1 hcz23_2 hcz23_3 hcz23_4 hcz23_5 hcz23_6 hfz23_0 hfz23_1 hfz23_2 hfz23_3 hfz23_4 hfz23_5 hfz23_6
     go_upto_if 33 with (first | ((with_reducible refine gate_dst (N := 30) rfl ?_); refine Kd.R_lit (Kd.int .u8) _ 5 ?hg (N := 30) ?hd (xs := ([(a0_0) % 256] : List Int)) (inner := [.int .u8 ((a0_0) % 256)]) (ok := fun _ => True) (okp := fun _ => True) ?hr ?hp (fun _ hk => hk) trivial (Below.refl _ _) (Nat.le_refl _) (by simp) ?_; (case hd => rfl); (case hg => rfl); (case hr => first | (go_simp; done) | (go_simp; rfl)); (case hp => exact (Reps.one (show Kd.M (Kd.int .u8) _ _ _ ((a0_0) % 256) [.int .u8 ((a0_0) % 256)] from rfl) (Reps.none _ _))); intro v226 w24 ho25 hb hg_ hnew_; clear hg_ hnew_; (first | rw [← Ny225.out] at ho25 | (simp only [Int.reduceToNat] at ho25; rw [← Ny225.out] at ho25)); have n0_ := Aside0.mk (Kd.R_lower ho25 (below_size (bl2_ HB GE218 GE219))); have n1_ := Aside0.mk (blk_below (g := gb218) (bk_ BK218) hb); have n2_ := Aside0.mk (blk_below (g := gb219) (bk_ BK219) hb); have n3_ := Aside0.mk (below_step (bl2_ HB GE218 GE219) hb); clear BK218; clear BK219; clear HB; have HO227 := n0_; have BK218 := n1_; have BK219 := n2_; have HB := n3_; clear n0_ n1_ n2_ n3_; clear hb ho25; refine cz7_ BK218.out ?_; intro hcz26_0 hcz26_1 hcz26_2 hcz26_3 hcz26_4 hcz26_5 hcz26_6 hfz26_0 hfz26_1 hfz26_2 hfz26_3 hfz26_4 hfz26_5 hfz26_6))
     (try simp only [Act.put, List.setIfInBounds_toArray, List.set_cons_zero, List.set_cons_succ])
     go_cut [33] (fun v33 wc => ∃ (kq : Nat) (x33_19 : Bool), v33 = .bool x33_19 ∧ Aside0 (pdu_AnswerBytes.j1 kq y225 a0_0 x33_19 a0_0 a0_1 a0_2 l0_3 a0_4 a0_5 a0_6 l1_0 a1_1 = some (r1, r2)) ∧ Aside0 (kq ≤ kj2) ∧ Aside0 (Kd.R (Kd.int .u8) 5 wc w.heap.size (fun _ => True) v226 y225) ∧ Aside0 (wc.heap[gb218]? = some (.cells #[.int .i64 a0_0, .int .i64 a0_1, .int .i64 a0_2, (.slice A0_3 l0_3.length c0_3), .int .i64 a0_4, .int .i64 a0_5, .int .i64 a0_6] 24 (0, 0))) ∧ Aside0 (wc.heap[gb219]? = some (.cells #[(.slice A1_0 l1_0.length c1_0), .int .i64 a1_1] 30 (0, 0))) ∧ Aside0 (Below w.heap.size w wc))
     case first =>
      have H := HC20.out
      clear HC20
      by_cases c27 : a0_0 = 1
      ·rw [if_pos c27] at H
       have c27b0 : (a0_0 == 1) = true := beq_iff_eq.mpr c27
       have c27b1 : (a0_0 != 1) = false := bne_eq_false_iff_eq.mpr c27
       clear c27
       (first | rw [c27b0] | (simp only [i64_w, i32_w]; rw [c27b0]) | skip)
       have H' := Aside0.mk H
       clear H
       go_wp2
       go_meet
       case rel => exact ⟨_, ((a0_0 == 1)), (by first | rfl | (simp; done) | (simp [*]; done)), H', ⟨by have := HJ2.out; first | omega | exact Nat.le_refl _⟩, ⟨kr_ HO227⟩, ⟨bk_ BK218⟩, ⟨bk_ BK219⟩, ⟨bl2_ HB GE218 GE219⟩⟩
      ·rw [if_neg c27] at H
       have c27b0 : (a0_0 == 1) = false := beq_eq_false_iff_ne.mpr c27
       have c27b1 : (a0_0 != 1) = true := bne_iff_ne.mpr c27
       (first | rw [c27b0] | (simp only [i64_w, i32_w]; rw [c27b0]) | skip)
       have H' := Aside0.mk H
       clear H
       go_wp2
       go_meet
       case rel => exact ⟨_, ((a0_0 == 2)), (by first | rfl | (simp; done) | (simp [*]; done)), H', ⟨by have := HJ2.out; first | omega | exact Nat.le_refl _⟩, ⟨kr_ HO227⟩, ⟨bk_ BK218⟩, ⟨bk_ BK219⟩, ⟨bl2_ HB GE218 GE219⟩⟩
     case rest =>
      clear HC20
      try clear c1
      try clear c2
      try clear p2
      try clear c3
      try clear c7
      try clear c7b0
      try clear c7b1
      try clear c9
      try clear c15
      try clear c18
      try clear c19
      try clear c19b0
      try clear c19b1
      try clear c21
      try clear c27
      try clear c27b0
      try clear c27b1
      try clear hcz10_0 hcz10_1 hcz10_2 hcz10_3 hcz10_4 hcz10_5 hcz10_6
      try clear hcz12_0 hcz12_1 hcz12_2 hcz12_3 hcz12_4 hcz12_5 hcz12_6
      try clear hcz13_0 hcz13_1
      try clear hcz16_0 hcz16_1 hcz16_2 hcz16_3 hcz16_4 hcz16_5 hcz16_6
      try clear hcz22_0 hcz22_1
      try clear hcz23_0 hcz23_1 hcz23_2 hcz23_3 hcz23_4 hcz23_5 hcz23_6
      try clear hcz26_0 hcz26_1 hcz26_2 hcz26_3 hcz26_4 hcz26_5 hcz26_6
      try clear hfz10_0 hfz10_1 hfz10_2 hfz10_3 hfz10_4 hfz10_5 hfz10_6
      try clear hfz12_0 hfz12_1 hfz12_2 hfz12_3 hfz12_4 hfz12_5 hfz12_6
      try clear hfz13_0 hfz13_1
      try clear hfz16_0 hfz16_1 hfz16_2 hfz16_3 hfz16_4 hfz16_5 hfz16_6
      try clear hfz22_0 hfz22_1
      try clear hfz23_0 hfz23_1 hfz23_2 hfz23_3 hfz23_4 hfz23_5 hfz23_6
      try clear hfz26_0 hfz26_1 hfz26_2 hfz26_3 hfz26_4 hfz26_5 hfz26_6
      try clear p2
      obtain ⟨kq, x33_19, rfl, HA, HJ19, HO_6, BK218, BK219, HB⟩ := hcut
      cases kq with
      | zero => exact absurd HA.out (by simp [pdu_AnswerBytes.j1])
      | succ kj19 =>
       have H := HA.out
       clear HA
       simp only [pdu_AnswerBytes.j1] at H
       by_cases c28 : x33_19 = true
       ·subst c28
        have H1 : ((pdu_packed.f kj19 l1_0).bind fun t228 => ((pdu_counted.f y225 t228).bind fun t231 => (some (t231, 0)))) = some (r1, r2) := by rw [if_pos rfl] at H; exact H
        clear H
        have H := H1
        clear H1
        replace H := Option.bind_eq_some_iff.mp H
        obtain ⟨t228, A290, H⟩ := H
        replace H : ((pdu_counted.f y225 t228).bind fun t231 => (some (t231, 0))) = some (r1, r2) := H
        have A29 := Aside0.mk A290
        clear A290
        replace H := Option.bind_eq_some_iff.mp H
        obtain ⟨t231, A300, H⟩ := H
        replace H : (some (t231, 0)) = some (r1, r2) := H
        have A30 := Aside0.mk A300
        clear A300
        simp only [Option.some.injEq, Prod.mk.injEq] at H
        obtain ⟨rfl, rfl⟩ := H
        have hnb31 := NB219_218.out
        have hnc31 := NB218_219.out
        refine cz2_ BK219.out ?_; intro hcz32_0 hcz32_1 hfz32_0 hfz32_1
        go_wp2_with (first | ((with_reducible refine gate_callee (f := 55) rfl ?_); refine goesL_ (some 39) rfl rfl Try.func55 (by kernel_rfl) rfl #[.slice A1_0 l1_0.length c1_0] rfl ar_ ?_; (with_reducible refine (pdu_packed.calls kj19 _ _ l1_0 t228 _ ?side1 ?side2 A29.out).mono ?_); (case side1 => exact sc_ (Kd.C_below HR1_0.out HB.out)); (case side2 => exact HC1_0.out); rintro e w33 ⟨v229, rfl, ho0, hb⟩; refine ⟨_, rfl, ?_⟩; have n0_ := Aside0.mk (Kd.R_elder' (kr_ HO_6) (Kd.R_base ho0) hb); have n1_ := Aside0.mk (Kd.R_lower (Kd.R_new' ho0 (Kd.R_lt (kr_ HO_6))) (below_size (bl2_ HB GE218 GE219))); have n2_ := Aside0.mk (blk_below (g := gb218) (bk_ BK218) hb); have n3_ := Aside0.mk (blk_below (g := gb219) (bk_ BK219) hb); have n4_ := Aside0.mk (below_step (bl2_ HB GE218 GE219) hb); clear HO_6; clear BK218; clear BK219; clear HB; have HO_6 := n0_; have HO230 := n1_; have BK218 := n2_; have BK219 := n3_; have HB := n4_; clear n0_ n1_ n2_ n3_ n4_; (try clear hb); (try clear hb2); (try clear hk); (try clear hi); (try clear ho0); obtain ⟨Ao34, co34, eo34⟩ := Kd.R_slice HO_6.out; subst eo34; obtain ⟨Ao35, co35, eo35⟩ := Kd.R_slice HO230.out; subst eo35) | ((with_reducible refine gate_callee (f := 54) rfl ?_); refine goesL_ (some 40) rfl rfl Try.func54 (by kernel_rfl) rfl #[.slice Ao34 y225.length co34, .slice Ao35 t228.length co35] rfl ar_ ?_; (with_reducible refine (pdu_counted.calls (fun k_ => some k_ = (.slice Ao34 y225.length co34 : Value).ownBlock) (.slice Ao34 y225.length co34) y225 _ _ t228 t231 w _ ?side1 ?side2 ?side3 ?side4 A30.out).mono ?_); (case side1 => repeat (first | (with_reducible first | exact HB.out | apply below_alloc | apply pw_below_drewN | apply below_drew1 | refine below_set ?_ GE218.out | refine below_set ?_ GE219.out) | exact HB.out)); (case side2 => exact Kd.R_tight rfl HO_6.out); (case side3 => exact Kd.C_kept_own (HO230.out) (fun k_ hk_ hs_ => (hk_.2) hs_)); (case side4 => exact (Kd.R_reads' HO230.out).2.1); rintro e w36 ⟨v232, rfl, ho0, hb, hkp⟩; refine ⟨_, rfl, ?_⟩; have n0_ := Aside0.mk (blk_kept (bk_ BK218) hkp (fun hs_ => (fun e_ => (Kd.R_ne HO_6.out BK218.out (by decide)) e_) hs_)); have n1_ := Aside0.mk (blk_kept (bk_ BK219) hkp (fun hs_ => (fun e_ => (Kd.R_ne HO_6.out BK219.out (by decide)) e_) hs_)); have n2_ := Aside0.mk (Kd.R_mono (ok' := fun k_ => some k_ ≠ (v232 : Value).ownBlock) (Kd.R_keptB (HO230.out) hkp (fun k_ hk_ hs_ => (hk_.2) hs_)) (fun k_ hk_ => fun e_ => Or.elim (ho0.1 k_ e_.symm) (fun hs_ => hk_.2.1 hs_) (fun hn_ => Nat.not_le.2 hk_.2.2 hn_))); have n3_ := Aside0.mk (Kd.R_mono (ok' := fun k_ => some k_ ≠ (.slice Ao35 t228.length co35 : Value).ownBlock) ho0 (fun k_ hk_ => Or.elim hk_ (fun hs_ => fun e_ => (((HO230.out).1 k_ e_.symm).2) hs_) (fun hn_ => (Kd.fresh' (Kd.R_lt (kr_ HO230)) k_ hn_)))); have n4_ := Aside0.mk (hb); clear BK218; clear BK219; clear HO230; clear HB; clear HO_6; have BK218 := n0_; have BK219 := n1_; have HO230 := n2_; have HO233 := n3_; have HB := n4_; clear n0_ n1_ n2_ n3_ n4_; (try clear hb); (try clear hkp); (try clear ho0)))
        go_ret2
        exact ⟨_, er_, by (with_reducible repeat (first | apply Kd.R_alloc | apply Kd.R_drewN | apply Kd.R_drew)); exact Kd.R_mono HO233.out (fun _ hk => trivial), bl2_ HB GE218 GE219⟩
       ·replace c28 := Bool.eq_false_iff.mpr c28
        subst c28
        have H1 : (if a0_0 = 3 then (pdu_AnswerBytes.j2 kj19 y225 a0_0 (a0_0 == 3) a0_0 a0_1 a0_2 l0_3 a0_4 a0_5 a0_6 l1_0 a1_1) else (if a0_0 = 4 then (pdu_AnswerBytes.j2 kj19 y225 a0_0 (a0_0 == 4) a0_0 a0_1 a0_2 l0_3 a0_4 a0_5 a0_6 l1_0 a1_1) else (pdu_AnswerBytes.j2 kj19 y225 a0_0 (a0_0 == 23) a0_0 a0_1 a0_2 l0_3 a0_4 a0_5 a0_6 l1_0 a1_1))) = some (r1, r2) := by rw [if_neg (show ¬ (false = true) by decide)] at H; exact H
        clear H
        have H := H1
        clear H1
        have HC37 := Aside0.mk H
        clear H
        go_upto_if 41 with (fail)
        go_cut [41] (fun v41 wc => ∃ (kq : Nat) (x41_36 : Bool), v41 = .bool x41_36 ∧ Aside0 (pdu_AnswerBytes.j2 kq y225 a0_0 x41_36 a0_0 a0_1 a0_2 l0_3 a0_4 a0_5 a0_6 l1_0 a1_1 = some (r1, r2)) ∧ Aside0 (kq ≤ kj19) ∧ Aside0 (Kd.R (Kd.int .u8) 5 wc w.heap.size (fun _ => True) v226 y225) ∧ Aside0 (wc.heap[gb218]? = some (.cells #[.int .i64 a0_0, .int .i64 a0_1, .int .i64 a0_2, (.slice A0_3 l0_3.length c0_3), .int .i64 a0_4, .int .i64 a0_5, .int .i64 a0_6] 24 (0, 0))) ∧ Aside0 (wc.heap[gb219]? = some (.cells #[(.slice A1_0 l1_0.length c1_0), .int .i64 a1_1] 30 (0, 0))) ∧ Aside0 (Below w.heap.size w wc))
        case first =>
         have H := HC37.out
         clear HC37
         by_cases c38 : a0_0 = 3
         ·rw [if_pos c38] at H
          have c38b0 : (a0_0 == 3) = true := beq_iff_eq.mpr c38
          have c38b1 : (a0_0 != 3) = false := bne_eq_false_iff_eq.mpr c38
          clear c38
          (first | rw [c38b0] | (simp only [i64_w, i32_w]; rw [c38b0]) | skip)
          have H' := Aside0.mk H
          clear H
          go_wp2
          go_meet
          case rel => exact ⟨_, ((a0_0 == 3)), (by first | rfl | (simp; done) | (simp [*]; done)), H', ⟨by have := HJ2.out; have := HJ19.out; first | omega | exact Nat.le_refl _⟩, ⟨kr_ HO_6⟩, ⟨bk_ BK218⟩, ⟨bk_ BK219⟩, ⟨bl2_ HB GE218 GE219⟩⟩
         ·rw [if_neg c38] at H
          have c38b0 : (a0_0 == 3) = false := beq_eq_false_iff_ne.mpr c38
          have c38b1 : (a0_0 != 3) = true := bne_iff_ne.mpr c38
          (first | rw [c38b0] | (simp only [i64_w, i32_w]; rw [c38b0]) | skip)
          by_cases c39 : a0_0 = 4
          ·rw [if_pos c39] at H
           have c39b0 : (a0_0 == 4) = true := beq_iff_eq.mpr c39
           have c39b1 : (a0_0 != 4) = false := bne_eq_false_iff_eq.mpr c39
           clear c39
           have H' := Aside0.mk H
           clear H
           go_wp2
           go_meet
           case rel => exact ⟨_, ((a0_0 == 4)), (by first | rfl | (simp; done) | (simp [*]; done)), H', ⟨by have := HJ2.out; have := HJ19.out; first | omega | exact Nat.le_refl _⟩, ⟨kr_ HO_6⟩, ⟨bk_ BK218⟩, ⟨bk_ BK219⟩, ⟨bl2_ HB GE218 GE219⟩⟩
          ·rw [if_neg c39] at H
           have c39b0 : (a0_0 == 4) = false := beq_eq_false_iff_ne.mpr c39
           have c39b1 : (a0_0 != 4) = true := bne_iff_ne.mpr c39
           have H' := Aside0.mk H
           clear H
           go_wp2
           go_meet
           case rel => exact ⟨_, ((a0_0 == 23)), (by first | rfl | (simp; done) | (simp [*]; done)), H', ⟨by have := HJ2.out; have := HJ19.out; first | omega | exact Nat.le_refl _⟩, ⟨kr_ HO_6⟩, ⟨bk_ BK218⟩, ⟨bk_ BK219⟩, ⟨bl2_ HB GE218 GE219⟩⟩
        case rest =>
         clear HC37
         try clear c1
         try clear c2
         try clear p2
         try clear c3
         try clear c5
         try clear c7
         try clear c7b0
         try clear c7b1
         try clear c9
         try clear c15
         try clear c18
         try clear c19
         try clear c19b0
         try clear c19b1
         try clear c21
         try clear c27
         try clear c27b0
         try clear c27b1
         try clear c28
         try clear c29
         try clear c31
         try clear c36
         try clear c38
         try clear c38b0
         try clear c38b1
         try clear c39
         try clear c39b0
         try clear c39b1
         try clear hcz10_0 hcz10_1 hcz10_2 hcz10_3 hcz10_4 hcz10_5 hcz10_6
         try clear hcz12_0 hcz12_1 hcz12_2 hcz12_3 hcz12_4 hcz12_5 hcz12_6
         try clear hcz13_0 hcz13_1
         try clear hcz16_0 hcz16_1 hcz16_2 hcz16_3 hcz16_4 hcz16_5 hcz16_6
         try clear hcz22_0 hcz22_1
         try clear hcz23_0 hcz23_1 hcz23_2 hcz23_3 hcz23_4 hcz23_5 hcz23_6
         try clear hcz26_0 hcz26_1 hcz26_2 hcz26_3 hcz26_4 hcz26_5 hcz26_6
         try clear hcz32_0 hcz32_1
         try clear hfz10_0 hfz10_1 hfz10_2 hfz10_3 hfz10_4 hfz10_5 hfz10_6
         try clear hfz12_0 hfz12_1 hfz12_2 hfz12_3 hfz12_4 hfz12_5 hfz12_6
         try clear hfz13_0 hfz13_1
         try clear hfz16_0 hfz16_1 hfz16_2 hfz16_3 hfz16_4 hfz16_5 hfz16_6
         try clear hfz22_0 hfz22_1
         try clear hfz23_0 hfz23_1 hfz23_2 hfz23_3 hfz23_4 hfz23_5 hfz23_6
         try clear hfz26_0 hfz26_1 hfz26_2 hfz26_3 hfz26_4 hfz26_5 hfz26_6
         try clear hfz32_0 hfz32_1
         try clear p2
         obtain ⟨kq, x41_36, rfl, HA, HJ36, HO_6, BK218, BK219, HB⟩ := hcut
         cases kq with
         | zero => exact absurd HA.out (by simp [pdu_AnswerBytes.j2])
         | succ kj36 =>
          have H := HA.out
          clear HA
          simp only [pdu_AnswerBytes.j2] at H
          by_cases c40 : x41_36 = true
          ·subst c40
           have H1 : ((pdu_lay.f ([] : List Int) l1_0).bind fun t234 => ((pdu_counted.f y225 t234).bind fun t237 => (some (t237, 0)))) = some (r1, r2) := by rw [if_pos rfl] at H; exact H
           clear H
           have H := H1
           clear H1
           replace H := Option.bind_eq_some_iff.mp H
           obtain ⟨t234, A410, H⟩ := H
           replace H : ((pdu_counted.f y225 t234).bind fun t237 => (some (t237, 0))) = some (r1, r2) := H
           have A41 := Aside0.mk A410
           clear A410
           replace H := Option.bind_eq_some_iff.mp H
           obtain ⟨t237, A420, H⟩ := H
           replace H : (some (t237, 0)) = some (r1, r2) := H
           have A42 := Aside0.mk A420
           clear A420
           simp only [Option.some.injEq, Prod.mk.injEq] at H
           obtain ⟨rfl, rfl⟩ := H
           have hnb43 := NB219_218.out
           have hnc43 := NB218_219.out
           refine cz2_ BK219.out ?_; intro hcz44_0 hcz44_1 hfz44_0 hfz44_1
           go_wp2_with (first | ((with_reducible refine gate_callee (f := 53) rfl ?_); refine goesL_ (some 48) rfl rfl Try.func53 (by kernel_rfl) rfl #[.slice none 0 0, .slice A1_0 l1_0.length c1_0] rfl ar_ ?_; (refine (pdu_lay.calls _ _ ([] : List Int) _ _ l1_0 t234 _ ?side1 ?side2 ?side3 ?side4 A41.out).mono ?_); (case side1 => exact Kd.C_nil _ _); (case side2 => exact Nat.le_refl _); (case side3 => exact sc_ (Kd.C_below HR1_0.out HB.out)); (case side4 => exact HC1_0.out); rintro e w45 ⟨v235, rfl, ho0, hb⟩; refine ⟨_, rfl, ?_⟩; have n0_ := Aside0.mk (Kd.R_elder' (kr_ HO_6) (Kd.R_base ho0) hb); have n1_ := Aside0.mk (Kd.R_lower (Kd.R_new' ho0 (Kd.R_lt (kr_ HO_6))) (below_size (bl2_ HB GE218 GE219))); have n2_ := Aside0.mk (blk_below (g := gb218) (bk_ BK218) hb); have n3_ := Aside0.mk (blk_below (g := gb219) (bk_ BK219) hb); have n4_ := Aside0.mk (below_step (bl2_ HB GE218 GE219) hb); clear HO_6; clear BK218; clear BK219; clear HB; have HO_6 := n0_; have HO236 := n1_; have BK218 := n2_; have BK219 := n3_; have HB := n4_; clear n0_ n1_ n2_ n3_ n4_; (try clear hb); (try clear hb2); (try clear hk); (try clear hi); (try clear ho0); obtain ⟨Ao46, co46, eo46⟩ := Kd.R_slice HO_6.out; subst eo46; obtain ⟨Ao47, co47, eo47⟩ := Kd.R_slice HO236.out; subst eo47) | ((with_reducible refine gate_callee (f := 54) rfl ?_); refine goesL_ (some 49) rfl rfl Try.func54 (by kernel_rfl) rfl #[.slice Ao46 y225.length co46, .slice Ao47 t234.length co47] rfl ar_ ?_; (with_reducible refine (pdu_counted.calls (fun k_ => some k_ = (.slice Ao46 y225.length co46 : Value).ownBlock) (.slice Ao46 y225.length co46) y225 _ _ t234 t237 w _ ?side1 ?side2 ?side3 ?side4 A42.out).mono ?_); (case side1 => repeat (first | (with_reducible first | exact HB.out | apply below_alloc | apply pw_below_drewN | apply below_drew1 | refine below_set ?_ GE218.out | refine below_set ?_ GE219.out) | exact HB.out)); (case side2 => exact Kd.R_tight rfl HO_6.out); (case side3 => exact Kd.C_kept_own (HO236.out) (fun k_ hk_ hs_ => (hk_.2) hs_)); (case side4 => exact (Kd.R_reads' HO236.out).2.1); rintro e w48 ⟨v238, rfl, ho0, hb, hkp⟩; refine ⟨_, rfl, ?_⟩; have n0_ := Aside0.mk (blk_kept (bk_ BK218) hkp (fun hs_ => (fun e_ => (Kd.R_ne HO_6.out BK218.out (by decide)) e_) hs_)); have n1_ := Aside0.mk (blk_kept (bk_ BK219) hkp (fun hs_ => (fun e_ => (Kd.R_ne HO_6.out BK219.out (by decide)) e_) hs_)); have n2_ := Aside0.mk (Kd.R_mono (ok' := fun k_ => some k_ ≠ (v238 : Value).ownBlock) (Kd.R_keptB (HO236.out) hkp (fun k_ hk_ hs_ => (hk_.2) hs_)) (fun k_ hk_ => fun e_ => Or.elim (ho0.1 k_ e_.symm) (fun hs_ => hk_.2.1 hs_) (fun hn_ => Nat.not_le.2 hk_.2.2 hn_))); have n3_ := Aside0.mk (Kd.R_mono (ok' := fun k_ => some k_ ≠ (.slice Ao47 t234.length co47 : Value).ownBlock) ho0 (fun k_ hk_ => Or.elim hk_ (fun hs_ => fun e_ => (((HO236.out).1 k_ e_.symm).2) hs_) (fun hn_ => (Kd.fresh' (Kd.R_lt (kr_ HO236)) k_ hn_)))); have n4_ := Aside0.mk (hb); clear BK218; clear BK219; clear HO236; clear HB; clear HO_6; have BK218 := n0_; have BK219 := n1_; have HO236 := n2_; have HO239 := n3_; have HB := n4_; clear n0_ n1_ n2_ n3_ n4_; (try clear hb); (try clear hkp); (try clear ho0)))
           go_ret2
           exact ⟨_, er_, by (with_reducible repeat (first | apply Kd.R_alloc | apply Kd.R_drewN | apply Kd.R_drew)); exact Kd.R_mono HO239.out (fun _ hk => trivial), bl2_ HB GE218 GE219⟩
          ·replace c40 := Bool.eq_false_iff.mpr c40
           subst c40
           have H1 : (if a0_0 = 15 then (pdu_AnswerBytes.j3 kj36 y225 (a0_0 == 15) a0_0 a0_1 a0_2 l0_3 a0_4 a0_5 a0_6) else (pdu_AnswerBytes.j3 kj36 y225 (a0_0 == 16) a0_0 a0_1 a0_2 l0_3 a0_4 a0_5 a0_6)) = some (r1, r2) := by rw [if_neg (show ¬ (false = true) by decide)] at H; exact H
           clear H
           have H := H1
           clear H1
           have HC49 := Aside0.mk H
           clear H
           go_upto_if 50 with (fail)
           go_cut [50] (fun v50 wc => ∃ (kq : Nat) (x50_48 : Bool), v50 = .bool x50_48 ∧ Aside0 (pdu_AnswerBytes.j3 kq y225 x50_48 a0_0 a0_1 a0_2 l0_3 a0_4 a0_5 a0_6 = some (r1, r2)) ∧ Aside0 (kq ≤ kj36) ∧ Aside0 (Kd.R (Kd.int .u8) 5 wc w.heap.size (fun _ => True) v226 y225) ∧ Aside0 (wc.heap[gb218]? = some (.cells #[.int .i64 a0_0, .int .i64 a0_1, .int .i64 a0_2, (.slice A0_3 l0_3.length c0_3), .int .i64 a0_4, .int .i64 a0_5, .int .i64 a0_6] 24 (0, 0))) ∧ Aside0 (wc.heap[gb219]? = some (.cells #[(.slice A1_0 l1_0.length c1_0), .int .i64 a1_1] 30 (0, 0))) ∧ Aside0 (Below w.heap.size w wc))
           case first =>
            have H := HC49.out
            clear HC49
            by_cases c50 : a0_0 = 15
            ·rw [if_pos c50] at H
             have c50b0 : (a0_0 == 15) = true := beq_iff_eq.mpr c50
             have c50b1 : (a0_0 != 15) = false := bne_eq_false_iff_eq.mpr c50
             clear c50
             (first | rw [c50b0] | (simp only [i64_w, i32_w]; rw [c50b0]) | skip)
             have H' := Aside0.mk H
             clear H
             go_wp2
             go_meet
             case rel => exact ⟨_, ((a0_0 == 15)), (by first | rfl | (simp; done) | (simp [*]; done)), H', ⟨by have := HJ2.out; have := HJ19.out; have := HJ36.out; first | omega | exact Nat.le_refl _⟩, ⟨kr_ HO_6⟩, ⟨bk_ BK218⟩, ⟨bk_ BK219⟩, ⟨bl2_ HB GE218 GE219⟩⟩
            ·rw [if_neg c50] at H
             have c50b0 : (a0_0 == 15) = false := beq_eq_false_iff_ne.mpr c50
             have c50b1 : (a0_0 != 15) = true := bne_iff_ne.mpr c50
             (first | rw [c50b0] | (simp only [i64_w, i32_w]; rw [c50b0]) | skip)
             have H' := Aside0.mk H
             clear H
             go_wp2
             go_meet
             case rel => exact ⟨_, ((a0_0 == 16)), (by first | rfl | (simp; done) | (simp [*]; done)), H', ⟨by have := HJ2.out; have := HJ19.out; have := HJ36.out; first | omega | exact Nat.le_refl _⟩, ⟨kr_ HO_6⟩, ⟨bk_ BK218⟩, ⟨bk_ BK219⟩, ⟨bl2_ HB GE218 GE219⟩⟩
           case rest =>
            clear HC49
            try clear c1
            try clear c2
            try clear p2
            try clear c3
            try clear c4
            try clear c5
            try clear c7
            try clear c7b0
            try clear c7b1
            try clear c9
            try clear c15
            try clear c18
            try clear c19
            try clear c19b0
            try clear c19b1
            try clear c21
            try clear c27
            try clear c27b0
            try clear c27b1
            try clear c28
            try clear c29
            try clear c31
            try clear c36
            try clear c38
            try clear c38b0
            try clear c38b1
            try clear c39
            try clear c39b0
            try clear c39b1
            try clear c40
            try clear c43
            try clear c50
            try clear c50b0
            try clear c50b1
            try clear hcz10_0 hcz10_1 hcz10_2 hcz10_3 hcz10_4 hcz10_5 hcz10_6
            try clear hcz12_0 hcz12_1 hcz12_2 hcz12_3 hcz12_4 hcz12_5 hcz12_6
            try clear hcz13_0 hcz13_1
            try clear hcz16_0 hcz16_1 hcz16_2 hcz16_3 hcz16_4 hcz16_5 hcz16_6
            try clear hcz22_0 hcz22_1
            try clear hcz23_0 hcz23_1 hcz23_2 hcz23_3 hcz23_4 hcz23_5 hcz23_6
            try clear hcz26_0 hcz26_1 hcz26_2 hcz26_3 hcz26_4 hcz26_5 hcz26_6
            try clear hcz32_0 hcz32_1
            try clear hcz44_0 hcz44_1
            try clear hfz10_0 hfz10_1 hfz10_2 hfz10_3 hfz10_4 hfz10_5 hfz10_6
            try clear hfz12_0 hfz12_1 hfz12_2 hfz12_3 hfz12_4 hfz12_5 hfz12_6
            try clear hfz13_0 hfz13_1
            try clear hfz16_0 hfz16_1 hfz16_2 hfz16_3 hfz16_4 hfz16_5 hfz16_6
            try clear hfz22_0 hfz22_1
            try clear hfz23_0 hfz23_1 hfz23_2 hfz23_3 hfz23_4 hfz23_5 hfz23_6
            try clear hfz26_0 hfz26_1 hfz26_2 hfz26_3 hfz26_4 hfz26_5 hfz26_6
            try clear hfz32_0 hfz32_1
            try clear hfz44_0 hfz44_1
            try clear p2
            obtain ⟨kq, x50_48, rfl, HA, HJ48, HO_6, BK218, BK219, HB⟩ := hcut
            cases kq with
            | zero => exact absurd HA.out (by simp [pdu_AnswerBytes.j3])
            | succ kj48 =>
             have H := HA.out
             clear HA
             simp only [pdu_AnswerBytes.j3] at H
             by_cases c51 : x50_48 = true
             ·subst c51
              have H1 : ((pdu_lay.f y225 (([a0_1, a0_2] : List Int))).bind fun t243 => (some (t243, 0))) = some (r1, r2) := by rw [if_pos rfl] at H; exact H
              clear H
              have H := H1
              clear H1
              obtain ⟨y240, hy240⟩ : ∃ y_ : List Int, y_ = (([a0_1, a0_2] : List Int)) := ⟨_, rfl⟩
              replace H : ((pdu_lay.f y225 y240).bind fun t243 => (some (t243, 0))) = some (r1, r2) := by first | (rw [hy240]; with_reducible exact H) | (have H2_ := (Option.bind_some _ _).symm.trans H; rw [hy240]; with_reducible exact H2_) | (have H2_ := (Option.bind_some _ _).symm.trans H; with_reducible exact H2_) | with_reducible exact H | (rw [hy240]; exact H) | exact H
              have Ny240 := Aside0.mk hy240
              clear hy240
              replace H := Option.bind_eq_some_iff.mp H
              obtain ⟨t243, A520, H⟩ := H
              replace H : (some (t243, 0)) = some (r1, r2) := H
              have A52 := Aside0.mk A520
              clear A520
              simp only [Option.some.injEq, Prod.mk.injEq] at H
              obtain ⟨rfl, rfl⟩ := H
              have hnb53 := NB218_219.out
              have hnc53 := NB219_218.out
              refine cz7_ BK218.out ?_; intro hcz54_0 hcz54_1 hcz54_2 hcz54_3 hcz54_4 hcz54_5 hcz54_6 hfz54_0 hfz54_1 hfz54_2 hfz54_3 hfz54_4 hfz54_5 hfz54_6
              go_wp2_with (first | ((with_reducible refine gate_dst (N := 58) rfl ?_); refine Kd.R_lit (Kd.int .i64) _ 3 ?hg (N := 58) ?hd (xs := ([a0_1, a0_2] : List Int)) (inner := [.int .i64 a0_1, .int .i64 a0_2]) (ok := fun _ => True) (okp := fun _ => True) ?hr ?hp (fun _ hk => hk) trivial (Below.refl _ _) (Nat.le_refl _) (by simp) ?_; (case hd => rfl); (case hg => rfl); (case hr => first | (go_simp; done) | (go_simp; rfl)); (case hp => exact (Reps.one (show Kd.M (Kd.int .i64) _ _ _ a0_1 [.int .i64 a0_1] from rfl) (Reps.one (show Kd.M (Kd.int .i64) _ _ _ a0_2 [.int .i64 a0_2] from rfl) (Reps.none _ _)))); intro v241 w55 ho56 hb hg_ hnew_; clear hg_ hnew_; (first | rw [← Ny240.out] at ho56 | (simp only [Int.reduceToNat] at ho56; rw [← Ny240.out] at ho56)); have n0_ := Aside0.mk (Kd.R_below (kr_ HO_6) hb); have n1_ := Aside0.mk (Kd.R_lower ho56 (below_size (bl2_ HB GE218 GE219))); have n2_ := Aside0.mk (blk_below (g := gb218) (bk_ BK218) hb); have n3_ := Aside0.mk (blk_below (g := gb219) (bk_ BK219) hb); have n4_ := Aside0.mk (below_step (bl2_ HB GE218 GE219) hb); clear HO_6; clear BK218; clear BK219; clear HB; have HO_6 := n0_; have HO242 := n1_; have BK218 := n2_; have BK219 := n3_; have HB := n4_; clear n0_ n1_ n2_ n3_ n4_; clear hb ho56; obtain ⟨Ao57, co57, eo57⟩ := Kd.R_slice HO_6.out; subst eo57; obtain ⟨Ao58, co58, eo58⟩ := Kd.R_slice HO242.out; subst eo58) | ((with_reducible refine gate_callee (f := 53) rfl ?_); refine goesL_ (some 59) rfl rfl Try.func53 (by kernel_rfl) rfl #[.slice Ao57 y225.length co57, .slice Ao58 y240.length co58] rfl ar_ ?_; (with_reducible refine (pdu_lay.calls _ _ y225 _ _ y240 t243 _ ?side1 ?side2 ?side3 ?side4 A52.out).mono ?_); (case side1 => exact sc_ (Kd.R_reads' HO_6.out).2.2); (case side2 => exact (Kd.R_reads' HO_6.out).2.1); (case side3 => exact sc_ (Kd.R_reads' HO242.out).2.2); (case side4 => exact (Kd.R_reads' HO242.out).2.1); rintro e w59 ⟨v244, rfl, ho0, hb⟩; refine ⟨_, rfl, ?_⟩; have n0_ := Aside0.mk (Kd.R_elder' (kr_ HO_6) (Kd.R_base ho0) hb); have n1_ := Aside0.mk (Kd.R_below (kr_ HO242) hb); have n2_ := Aside0.mk (Kd.R_lower (Kd.R_new' ho0 (Kd.R_lt (kr_ HO_6))) (below_size (bl2_ HB GE218 GE219))); have n3_ := Aside0.mk (blk_below (g := gb218) (bk_ BK218) hb); have n4_ := Aside0.mk (blk_below (g := gb219) (bk_ BK219) hb); have n5_ := Aside0.mk (below_step (bl2_ HB GE218 GE219) hb); clear HO_6; clear HO242; clear BK218; clear BK219; clear HB; have HO_6 := n0_; have HO242 := n1_; have HO245 := n2_; have BK218 := n3_; have BK219 := n4_; have HB := n5_; clear n0_ n1_ n2_ n3_ n4_ n5_; (try clear hb); (try clear hb2); (try clear hk); (try clear hi); (try clear ho0)))
              go_ret2
              exact ⟨_, er_, by (with_reducible repeat (first | apply Kd.R_alloc | apply Kd.R_drewN | apply Kd.R_drew)); exact Kd.R_mono HO245.out (fun _ hk => trivial), bl2_ HB GE218 GE219⟩
             ·replace c51 := Bool.eq_false_iff.mpr c51
              subst c51
              have H1 : ((pdu_Bytes.f kj48 a0_0 a0_1 a0_2 l0_3 a0_4 a0_5 a0_6).bind fun bt246 => (some (bt246.1, bt246.2))) = some (r1, r2) := by rw [if_neg (show ¬ (false = true) by decide)] at H; exact H
              clear H
              have H := H1
              clear H1
              replace H := Option.bind_eq_some_iff.mp H
              obtain ⟨⟨t246, t249⟩, A600, H⟩ := H
              replace H : (some (t246, t249)) = some (r1, r2) := H
              have A60 := Aside0.mk A600
              clear A600
              simp only [Option.some.injEq, Prod.mk.injEq] at H
              obtain ⟨rfl, rfl⟩ := H
              have hnb61 := NB218_219.out
              have hnc61 := NB219_218.out
              refine cz7_ BK218.out ?_; intro hcz62_0 hcz62_1 hcz62_2 hcz62_3 hcz62_4 hcz62_5 hcz62_6 hfz62_0 hfz62_1 hfz62_2 hfz62_3 hfz62_4 hfz62_5 hfz62_6
              go_wp2_with (first | ((with_reducible refine gate_callee (f := 30) rfl ?_); refine goesL_ (some 61) rfl rfl Try.func30 (by kernel_rfl) rfl #[.agg #[.int .i64 a0_0, .int .i64 a0_1, .int .i64 a0_2, .slice A0_3 l0_3.length c0_3, .int .i64 a0_4, .int .i64 a0_5, .int .i64 a0_6]] rfl ar_ ?_; (with_reducible refine (pdu_Bytes.calls kj48 a0_0 a0_1 a0_2 _ _ l0_3 a0_4 a0_5 a0_6 t246 t249 _ ?side1 ?side2 A60.out).mono ?_); (case side1 => exact sc_ (Kd.C_below HR0_3.out HB.out)); (case side2 => exact HC0_3.out); rintro e w63 ⟨v247, rfl, ho0, hb⟩; refine ⟨_, rfl, ?_⟩; have n0_ := Aside0.mk (Kd.R_elder' (kr_ HO_6) (Kd.R_base ho0) hb); have n1_ := Aside0.mk (Kd.R_lower (Kd.R_new' ho0 (Kd.R_lt (kr_ HO_6))) (below_size (bl2_ HB GE218 GE219))); have n2_ := Aside0.mk (blk_below (g := gb218) (bk_ BK218) hb); have n3_ := Aside0.mk (blk_below (g := gb219) (bk_ BK219) hb); have n4_ := Aside0.mk (below_step (bl2_ HB GE218 GE219) hb); clear HO_6; clear BK218; clear BK219; clear HB; have HO_6 := n0_; have HO248 := n1_; have BK218 := n2_; have BK219 := n3_; have HB := n4_; clear n0_ n1_ n2_ n3_ n4_; (try clear hb); (try clear hb2); (try clear hk); (try clear hi); (try clear ho0)))
              go_ret2
              exact ⟨_, er_, by (with_reducible repeat (first | apply Kd.R_alloc | apply Kd.R_drewN | apply Kd.R_drew)); exact Kd.R_mono HO248.out (fun _ hk => trivial), bl2_ HB GE218 GE219⟩
    ·rw [if_neg c19] at H
     have c19b0 : (a1_1 == 0) = false := beq_eq_false_iff_ne.mpr c19
     have c19b1 : (a1_1 != 0) = true := bne_iff_ne.mpr c19
     obtain ⟨y222, hy222⟩ : ∃ y_ : List Int, y_ = (([Go.bits .or .u8 ((a0_0) % 256) 128, (a1_1) % 256] : List Int)) := ⟨_, rfl⟩
     replace H : (some (y222, 0)) = some (r1, r2) := by first | (rw [hy222]; with_reducible exact H) | (have H2_ := (Option.bind_some _ _).symm.trans H; rw [hy222]; with_reducible exact H2_) | (have H2_ := (Option.bind_some _ _).symm.trans H; with_reducible exact H2_) | with_reducible exact H | (rw [hy222]; exact H) | exact H
     have Ny222 := Aside0.mk hy222
     clear hy222
     simp only [Option.some.injEq, Prod.mk.injEq] at H
     obtain ⟨rfl, rfl⟩ := H
     have hnb64 := NB219_218.out
     have hnc64 := NB218_219.out
     refine cz2_ BK219.out ?_; intro hcz65_0 hcz65_1 hfz65_0 hfz65_1
     refine cz7_ BK218.out ?_; intro hcz66_0 hcz66_1 hcz66_2 hcz66_3 hcz66_4 hcz66_5 hcz66_6 hfz66_0 hfz66_1 hfz66_2 hfz66_3 hfz66_4 hfz66_5 hfz66_6
     go_wp2_with (first | ((with_reducible refine gate_dst (N := 26) rfl ?_); refine Kd.R_lit (Kd.int .u8) _ 5 ?hg (N := 26) ?hd (xs := ([Go.bits .or .u8 ((a0_0) % 256) 128, (a1_1) % 256] : List Int)) (inner := [.int .u8 (Go.bits .or .u8 ((a0_0) % 256) 128), .int .u8 ((a1_1) % 256)]) (ok := fun _ => True) (okp := fun _ => True) ?hr ?hp (fun _ hk => hk) trivial (Below.refl _ _) (Nat.le_refl _) (by simp) ?_; (case hd => rfl); (case hg => rfl); (case hr => first | (go_simp; done) | (go_simp; rfl)); (case hp => exact (Reps.one (show Kd.M (Kd.int .u8) _ _ _ (Go.bits .or .u8 ((a0_0) % 256) 128) [.int .u8 (Go.bits .or .u8 ((a0_0) % 256) 128)] from rfl) (Reps.one (show Kd.M (Kd.int .u8) _ _ _ ((a1_1) % 256) [.int .u8 ((a1_1) % 256)] from rfl) (Reps.none _ _)))); intro v223 w67 ho68 hb hg_ hnew_; clear hg_ hnew_; (first | rw [← Ny222.out] at ho68 | (simp only [Int.reduceToNat] at ho68; rw [← Ny222.out] at ho68)); have n0_ := Aside0.mk (Kd.R_lower ho68 (below_size (bl2_ HB GE218 GE219))); have n1_ := Aside0.mk (blk_below (g := gb218) (bk_ BK218) hb); have n2_ := Aside0.mk (blk_below (g := gb219) (bk_ BK219) hb); have n3_ := Aside0.mk (below_step (bl2_ HB GE218 GE219) hb); clear BK218; clear BK219; clear HB; have HO224 := n0_; have BK218 := n1_; have BK219 := n2_; have HB := n3_; clear n0_ n1_ n2_ n3_; clear hb ho68))
     go_ret2
     exact ⟨_, er_, kr_ HO224, bl2_ HB GE218 GE219⟩
end Go.Proofs.Ytocicifgglkaeaa.PQ
end

section
namespace Go.Proofs.Ytocicifgglkaeaa.PR
open Go.RowKit Go.Proofs.YtocicifgglkaeaaW.PrintWords Go.Proofs.YtocicifgglkaeaaW.PrintLast Go.Proofs.YtocicifgglkaeaaW.PrintMore
attribute [local go_sem] max2_int min2_int max_two min_two max_three min_three max_four min_four   
set_option linter.unusedVariables false
set_option linter.unusedSimpArgs false
open Go.Proofs.Ytocicifgglkaeaa.Ext Go.Proofs.Ytocicifgglkaeaa.PP Go.Proofs.Ytocicifgglkaeaa.ExtF Go.Proofs.Ytocicifgglkaeaa.PQ Go.Proofs.Ytocicifgglkaeaa.ExtM
def errW : Option Int → Value
 | none => .nilIface
 | some c => .iface 0 (.int .i64 c)
theorem errW_none : errW none = .nilIface := rfl
theorem errW_some (c : Int) : errW (some c) = .iface 0 (.int .i64 c) := rfl
theorem info3 : (Try.prog.info? 3).map (fun i => (i.zero, i.size, i.bytes)) = some (some (.int .i64 0), 1, 8) := by kernel_rfl
theorem info5 : (Try.prog.info? 5).map (fun i => (i.zero, i.size, i.bytes)) = some (some (.int .u8 0), 1, 1) := by kernel_rfl
end Go.Proofs.Ytocicifgglkaeaa.PR
end

section
namespace Go.Proofs.Ytocicifgglkaeaa.PR
open Go.RowKit Go.Proofs.YtocicifgglkaeaaW.PrintWords Go.Proofs.YtocicifgglkaeaaW.PrintLast Go.Proofs.YtocicifgglkaeaaW.PrintMore
attribute [local go_sem] max2_int min2_int max_two min_two max_three min_three max_four min_four   
set_option linter.unusedVariables false
set_option linter.unusedSimpArgs false
open Go.Proofs.Ytocicifgglkaeaa.Ext Go.Proofs.Ytocicifgglkaeaa.PP Go.Proofs.Ytocicifgglkaeaa.ExtF Go.Proofs.Ytocicifgglkaeaa.PQ Go.Proofs.Ytocicifgglkaeaa.ExtM
def pdu_counted.f (l0 : List Int) (l1 : List Int) : Option (List Int) := if l0.length < 140737488355328 then ((some (l0 ++ [((l1.length : Int)) % 256] : List Int)).bind fun y339 => (if y339.length + l1.length < 140737488355328 then (some (y339 ++ l1)) else (none))) else (none)
set_option maxHeartbeats 8000000 in
set_option maxRecDepth 100000 in
theorem pdu_counted.calls (P0_ : Nat → Prop) (u9000_ : Value) (l0 : List Int) (A1 : Option Addr) (c1 : Nat) (l1 : List Int) (r : List Int) (w0 w : World) (hB : Below w0.heap.size w0 w) (ho0 : Kd.R (Kd.int .u8) 5 w w0.heap.size P0_ u9000_ l0) (hr1 : ∀ W_, Kept w W_ (fun k_ => P0_ k_) → Kd.C (Kd.int .u8) W_ A1 l1.length l1) (hc1 : l1.length ≤ c1) (h : pdu_counted.f l0 l1 = some r) :
 Calls Try.prog 54 #[u9000_, .slice A1 l1.length c1] w fun e w' => ∃ v0_ : Value, e = .returned (v0_) ∧ Kd.R (Kd.int .u8) 5 w' w0.heap.size (fun k_ => (P0_ k_ ∨ w.heap.size ≤ k_)) v0_ r ∧ Below w0.heap.size w0 w' ∧ Kept w w' (fun k_ => P0_ k_) := by
 have HO0 := Aside0.mk (show Kd.R (Kd.int .u8) 5 w w0.heap.size (fun k_ => (P0_ k_ ∨ w.heap.size ≤ k_)) u9000_ l0 from Kd.R_mono ho0 (fun k_ hk => (.inl hk)))
 have HR1 := Aside0.mk hr1
 have HC1 := Aside0.mk hc1
 clear hr1 hc1
 have HK := Aside0.mk (Kept.refl w (fun k_ => P0_ k_))
 have HW0 := Aside0.mk hB.size
 have HB := Aside0.mk hB
 clear hB
 have H : (if l0.length < 140737488355328 then ((some (l0 ++ [((l1.length : Int)) % 256] : List Int)).bind fun y339 => (if y339.length + l1.length < 140737488355328 then (some (y339 ++ l1)) else (none))) else (none)) = some r := h
 clear h
 by_cases c3 : l0.length < 140737488355328
 ·rw [if_pos c3] at H
  have LMc3 := Aside0.mk c3
  clear c3
  obtain ⟨y339, hy339⟩ : ∃ y_ : List Int, y_ = (l0 ++ [((l1.length : Int)) % 256]) := ⟨_, rfl⟩
  replace H : (if y339.length + l1.length < 140737488355328 then (some (y339 ++ l1)) else (none)) = some r := by first | (rw [hy339]; with_reducible exact H) | (have H2_ := (Option.bind_some _ _).symm.trans H; rw [hy339]; with_reducible exact H2_) | (have H2_ := (Option.bind_some _ _).symm.trans H; with_reducible exact H2_) | with_reducible exact H | (rw [hy339]; exact H) | exact H
  have Ny339 := Aside0.mk hy339
  clear hy339
  by_cases c4 : y339.length + l1.length < 140737488355328
  ·rw [if_pos c4] at H
   have LMc4 := Aside0.mk c4
   clear c4
   obtain ⟨y342, hy342⟩ : ∃ y_ : List Int, y_ = (y339 ++ l1) := ⟨_, rfl⟩
   replace H : (some y342) = some r := by first | (rw [hy342]; with_reducible exact H) | (have H2_ := (Option.bind_some _ _).symm.trans H; rw [hy342]; with_reducible exact H2_) | (have H2_ := (Option.bind_some _ _).symm.trans H; with_reducible exact H2_) | with_reducible exact H | (rw [hy342]; exact H) | exact H
   have Ny342 := Aside0.mk hy342
   clear hy342
   obtain rfl := Option.some.inj H
   go_enter Try.func54, Try.ntmps54
   go_wp2_with (first | ((with_reducible refine gate_builtin (b := .append) (xs := #[.tmp 5, .tmp 9]) rfl ?_); at_builtin; refine Kd.R_append (Kd.int .u8) (w0 := w0) w0.heap.size rfl (.tmp 5) (.tmp 9) 58 5 (.int .u8 0) 1 rfl Try.underlying58 info5 rfl (by decide) (by omega) u9000_ l0 (((l1.length : Int)) % 256) [.int .u8 (((l1.length : Int)) % 256)] (fun k_ => (P0_ k_ ∨ w.heap.size ≤ k_)) (fun _ => False) rfl rfl ?aP (fun _ hk => hk.elim) ?aF ?aO ?aB ?aS ?aL ?_; (case aP => exact rfl); (case aB => exact (bl0_ HB)); (case aF => exact (fun k_ hk => (.inr (Nat.le_trans (by first | exact HK.out.1 | exact (show Kept w _ (fun k_ => P0_ k_) from by repeat (first | (with_reducible first | exact HK.out | apply Kept.alloc | apply Kept.drewN | apply Kept.drew) | exact HK.out)).1) hk)))); (case aO => exact (kr_ HO0)); (case aS => exact (below_size (bl0_ HB))); (case aL => have := LMc3.out; omega); intro v340 w5 ho hb hg hat; rw [← Ny339.out] at ho; have n0_ := Aside0.mk (hb); have n1_ := Aside0.mk (Kept.of_grown (S := (fun k_ => P0_ k_)) hg (by repeat (first | (with_reducible first | exact HK.out | apply Kept.alloc | apply Kept.drewN | apply Kept.drew) | exact HK.out)) (fun k_ e_ => (HO0.out.1 k_ e_))); have n2_ := Aside0.mk (ho); clear HB; clear HK; clear HO0; have HB := n0_; have HK := n1_; have HO341 := n2_; clear n0_ n1_ n2_; clear ho hb hg hat) | ((with_reducible refine gate_builtin (b := .append) (xs := #[.tmp 10, .tmp 11]) rfl ?_); at_builtin; refine Kd.R_append_rows (Kd.int .u8) (w0 := w0) w0.heap.size rfl (.tmp 10) (.tmp 11) 58 5 (.int .u8 0) 1 rfl Try.underlying58 info5 rfl (by decide) (by omega) v340 y339 l1 _ _ _ (fun k_ => (P0_ k_ ∨ w.heap.size ≤ k_)) (fun _ => False) rfl rfl ?aO ?aR (fun _ _ h => h) (fun _ h => h.elim) ?aF ?aB ?aS ?aL ?_; (case aR => exact Kd.C_kept_now HR1.out (by repeat (first | (with_reducible first | exact HK.out | apply Kept.alloc | apply Kept.drewN | apply Kept.drew) | exact HK.out))); (case aB => exact (bl0_ HB)); (case aF => exact (fun k_ hk => (.inr (Nat.le_trans (by first | exact HK.out.1 | exact (show Kept w _ (fun k_ => P0_ k_) from by repeat (first | (with_reducible first | exact HK.out | apply Kept.alloc | apply Kept.drewN | apply Kept.drew) | exact HK.out)).1) hk)))); (case aO => exact (kr_ HO341)); (case aS => exact (below_size (bl0_ HB))); (case aL => have := LMc4.out; omega); intro v343 w6 ho hb hg hat; rw [← Ny342.out] at ho; have n0_ := Aside0.mk (hb); have n1_ := Aside0.mk (Kept.of_grown (S := (fun k_ => P0_ k_)) hg (by repeat (first | (with_reducible first | exact HK.out | apply Kept.alloc | apply Kept.drewN | apply Kept.drew) | exact HK.out)) (fun k_ e_ => (HO341.out.1 k_ e_))); have n2_ := Aside0.mk (ho); clear HB; clear HK; clear HO341; have HB := n0_; have HK := n1_; have HO344 := n2_; clear n0_ n1_ n2_; clear ho hb hg hat))
   go_ret
   exact ⟨_, er_, kr_ HO344, bl0_ HB, by repeat (first | (with_reducible first | exact HK.out | apply Kept.alloc | apply Kept.drewN | apply Kept.drew) | exact HK.out)⟩
  ·rw [if_neg c4] at H
   exact absurd H (by simp)
 ·rw [if_neg c3] at H
  exact absurd H (by simp)
def wire_At.f (l0 : List Int) (a1 : Int) : Option (Int × Int) := if a1 < 0 then (some (0, 1)) else (if a1 > (wrap64 ((l0.length : Int) - 2)) then (some (0, 7)) else (if 0 ≤ a1 then (if a1 < (l0.length : Int) then (if 0 ≤ (wrap64 (a1 + 1)) then (if (wrap64 (a1 + 1)) < (l0.length : Int) then (some (Go.bits .or .i64 (wrap64 ((wrap64 (rd l0 a1)) * 256)) (wrap64 (rd l0 (wrap64 (a1 + 1)))), 0)) else (none)) else (none)) else (none)) else (none)))
set_option maxHeartbeats 8000000 in
set_option maxRecDepth 100000 in
theorem wire_At.calls (A0 : Option Addr) (c0 : Nat) (l0 : List Int) (a1 : Int) (r1 : Int) (r2 : Int) (w : World) (hr0 : Kd.C (Kd.int .u8) w A0 l0.length l0) (hc0 : l0.length ≤ c0) (h : wire_At.f l0 a1 = some (r1, r2)) :
 Calls Try.prog 73 #[.slice A0 l0.length c0, .int .i64 a1] w fun e w' => e = .returned (.tuple #[.int .i64 r1, .int .i64 r2]) ∧ Drawn0 w w' := by
 have HR0 := Aside0.mk hr0
 have HC0 := Aside0.mk hc0
 clear hr0 hc0
 have H : (if a1 < 0 then (some (0, 1)) else (if a1 > (wrap64 ((l0.length : Int) - 2)) then (some (0, 7)) else (if 0 ≤ a1 then (if a1 < (l0.length : Int) then (if 0 ≤ (wrap64 (a1 + 1)) then (if (wrap64 (a1 + 1)) < (l0.length : Int) then (some (Go.bits .or .i64 (wrap64 ((wrap64 (rd l0 a1)) * 256)) (wrap64 (rd l0 (wrap64 (a1 + 1)))), 0)) else (none)) else (none)) else (none)) else (none)))) = some (r1, r2) := h
 clear h
 by_cases c3 : a1 < 0
 ·rw [if_pos c3] at H
  have c3b0 : decide (a1 < 0) = true := decide_eq_true c3
  clear c3
  simp only [Option.some.injEq, Prod.mk.injEq] at H
  obtain ⟨rfl, rfl⟩ := H
  go_enter Try.func73, Try.ntmps73
  go_wp2
  repeat (go_quiet (fail); try go_wp2)
  go_ret2
  exact ⟨by first | rfl | (simp; done) | (simp [*]; done), by repeat (first | exact Drawn0.refl _ | apply Drawn0.step)⟩
 ·rw [if_neg c3] at H
  have c3b0 : decide (a1 < 0) = false := decide_eq_false c3
  clear c3
  by_cases c4 : a1 > (wrap64 ((l0.length : Int) - 2))
  ·rw [if_pos c4] at H
   have c4b0 : decide ((wrap64 ((l0.length : Int) - 2)) < a1) = true := decide_eq_true c4
   clear c4
   simp only [Option.some.injEq, Prod.mk.injEq] at H
   obtain ⟨rfl, rfl⟩ := H
   go_enter Try.func73, Try.ntmps73
   go_wp2
   repeat (go_quiet (fail); try go_wp2)
   go_ret2
   exact ⟨by first | rfl | (simp; done) | (simp [*]; done), by repeat (first | exact Drawn0.refl _ | apply Drawn0.step)⟩
  ·rw [if_neg c4] at H
   have c4b0 : decide ((wrap64 ((l0.length : Int) - 2)) < a1) = false := decide_eq_false c4
   clear c4
   by_cases c5 : 0 ≤ a1
   ·rw [if_pos c5] at H
    have c5b0 : decide (0 ≤ a1) = true := decide_eq_true c5
    clear c5
    by_cases c6 : a1 < (l0.length : Int)
    ·rw [if_pos c6] at H
     have c6b0 : decide (a1 < (l0.length : Int)) = true := decide_eq_true c6
     clear c6
     obtain ⟨ji7, hji7⟩ : ∃ j_ : Int, (wrap64 (a1 + 1)) = j_ := ⟨_, rfl⟩
     replace H : (if 0 ≤ (ji7) then (if (ji7) < (l0.length : Int) then (some (Go.bits .or .i64 (wrap64 ((wrap64 (rd l0 a1)) * 256)) (wrap64 (rd l0 (ji7))), 0)) else (none)) else (none)) = some (r1, r2) := by first | (rw [hji7] at H; exact H) | (simp only [hji7] at H ⊢; exact H)
     have hji7w : (IntKind.i64.wrap (a1 + 1)) = ji7 := (i64_w _).trans hji7
     by_cases c8 : 0 ≤ (ji7)
     ·rw [if_pos c8] at H
      have c8b0 : decide (0 ≤ (ji7)) = true := decide_eq_true c8
      clear c8
      by_cases c9 : (ji7) < (l0.length : Int)
      ·rw [if_pos c9] at H
       have c9b0 : decide ((ji7) < (l0.length : Int)) = true := decide_eq_true c9
       clear c9
       simp only [Option.some.injEq, Prod.mk.injEq] at H
       obtain ⟨rfl, rfl⟩ := H
       have p345 : 0 ≤ (a1 : Int) := of_decide_eq_true (by first | (with_reducible assumption) | assumption)
       have q345 : a1 < (l0.length : Int) := of_decide_eq_true (by first | (with_reducible assumption) | assumption)
       obtain ⟨ad345, e345, hx345_0⟩ := Kd.at_int HR0.out a1 p345 q345
       cases e345
       replace p345 := eq_true p345
       replace q345 := eq_true q345
       have p346 : 0 ≤ ((ji7) : Int) := of_decide_eq_true (by first | (with_reducible assumption) | assumption)
       have q346 : (ji7) < (l0.length : Int) := of_decide_eq_true (by first | (with_reducible assumption) | assumption)
       obtain ⟨ad346, e346, hx346_0⟩ := Kd.at_int HR0.out (ji7) p346 q346
       obtain rfl : ad345 = ad346 := (by injection e346)
       replace p346 := eq_true p346
       replace q346 := eq_true q346
       go_enter Try.func73, Try.ntmps73
       go_wp2
       repeat (go_quiet (fail); try go_wp2)
       go_ret2
       exact ⟨by first | rfl | (simp; done) | (simp only [← hji7] <;> (first | rfl | simp)) | (simp [*]; done), by repeat (first | exact Drawn0.refl _ | apply Drawn0.step)⟩
      ·rw [if_neg c9] at H
       exact absurd H (by simp)
     ·rw [if_neg c8] at H
      exact absurd H (by simp)
    ·rw [if_neg c6] at H
     exact absurd H (by simp)
   ·rw [if_neg c5] at H
    exact absurd H (by simp)
def pdu_words.l0 : Nat → List Int → List Int → Int → Option (List Int)
 | 0, _, _, _ => none
 | k + 1, x0, x3, x4 => if (wrap64 (x4 + 1)) < (x0.length : Int) then ((wire_At.f x0 x4).bind fun bt347 => (if x3.length < 17592186044416 then (pdu_words.l0 k x0 (x3 ++ [bt347.1]) (wrap64 (x4 + 2))) else (none))) else (some x3)
def pdu_words.f (k : Nat) (l0 : List Int) : Option (List Int) := pdu_words.l0 k l0 ([] : List Int) 0
theorem pdu_words.mono_l : ∀ k, (∀ y0 y1 y2, LeO (pdu_words.l0 k y0 y1 y2) (pdu_words.l0 (k + 1) y0 y1 y2))
 | 0 => fun _ _ _ r h => by simp [pdu_words.l0] at h
 | k + 1 => by
  have ih0 := pdu_words.mono_l k
  ·intro y0 y1 y2
   unfold pdu_words.l0
   repeat' first
   | (with_reducible exact ih0 _ _ _)
   | (with_reducible exact LeO.refl _)
   | (with_reducible exact LeO.none _)
   | (with_reducible refine LeO.ite ?_ ?_)
   | (with_reducible refine LeO.bind ?_ (fun _ => ?_))
   | exact ih0 _ _ _
   | exact LeO.none _
   | refine LeO.ite ?_ ?_
   | refine LeO.bind ?_ (fun _ => ?_)
theorem pdu_words.mono : ∀ a0 k, LeO (pdu_words.f k a0) (pdu_words.f (k + 1) a0) := by
 intro a0 k
 have ih0 := pdu_words.mono_l k
 unfold pdu_words.f
 repeat' first
  | (with_reducible exact ih0 _ _ _)
  | (with_reducible exact LeO.refl _)
  | (with_reducible exact LeO.none _)
  | (with_reducible refine LeO.ite ?_ ?_)
  | (with_reducible refine LeO.bind ?_ (fun _ => ?_))
  | exact ih0 _ _ _
  | exact LeO.none _
  | refine LeO.ite ?_ ?_
  | refine LeO.bind ?_ (fun _ => ?_)
set_option maxHeartbeats 8000000 in
set_option maxRecDepth 100000 in
theorem pdu_words.calls (k : Nat) (A0 : Option Addr) (c0 : Nat) (l0 : List Int) (r : List Int) (w : World) (hr0 : Kd.C (Kd.int .u8) w A0 l0.length l0) (hc0 : l0.length ≤ c0) (h : pdu_words.f k l0 = some r) :
 Calls Try.prog 59 #[.slice A0 l0.length c0] w fun e w' => ∃ v0_ : Value, e = .returned (v0_) ∧ Kd.R (Kd.int .i64) 3 w' w.heap.size (fun _ => True) v0_ r ∧ Below w.heap.size w w' := by
 have HR0 := Aside0.mk hr0
 have HC0 := Aside0.mk hc0
 clear hr0 hc0
 have HB := Aside0.mk (Below.refl w.heap.size w)
 have H : (pdu_words.l0 k l0 ([] : List Int) 0) = some r := h
 clear h
 have H' := Aside0.mk H
 clear H
 go_enter Try.func59, Try.ntmps59
 go_wp2
 go_loopg [3, 4] k (fun kq v3 v4 w' => ∃ (x3_1 : List Int) (x4_1 : Int), v4 = .int .i64 x4_1 ∧ Aside0 (pdu_words.l0 kq l0 x3_1 x4_1 = some r) ∧ Aside0 (kq ≤ k) ∧ Aside0 (Kd.R (Kd.int .i64) 3 w' w.heap.size (fun _ => True) v3 x3_1) ∧ Aside0 (Below w.heap.size w w'))
 case atStart => exact ⟨(([] : List Int)), (0), (by first | rfl | (simp; done) | (simp [*]; done)), H', ⟨Nat.le_refl _⟩, ⟨by first | exact Kd.R_nil _ _ _ _ _ | exact Kd.N_nil _ _ _ _ _ | exact Kd.V_nil _ _ _ _ _ | exact Kd.Q_nil _ _ _ _ _ | exact Kd.S_nil _ _ _ _ _⟩, ⟨bl0_ HB⟩⟩
 case round =>
  clear H'
  obtain ⟨x3_1, x4_1, rfl, HA, HK1, HO_3, HB⟩ := hrel
  cases gk with
  | zero => exact absurd HA.out (by simp [pdu_words.l0])
  | succ k1 =>
   have H := HA.out
   clear HA
   simp only [pdu_words.l0] at H
   by_cases c2 : (wrap64 (x4_1 + 1)) < (l0.length : Int)
   ·rw [if_pos c2] at H
    have c2b0 : decide ((wrap64 (x4_1 + 1)) < (l0.length : Int)) = true := decide_eq_true c2
    clear c2
    replace H := Option.bind_eq_some_iff.mp H
    obtain ⟨⟨t347, t348⟩, A30, H⟩ := H
    replace H : (if x3_1.length < 17592186044416 then (pdu_words.l0 k1 l0 (x3_1 ++ [t347]) (wrap64 (x4_1 + 2))) else (none)) = some r := H
    have A3 := Aside0.mk A30
    clear A30
    by_cases c4 : x3_1.length < 17592186044416
    ·rw [if_pos c4] at H
     have LMc4 := Aside0.mk c4
     clear c4
     obtain ⟨y349, hy349⟩ : ∃ y_ : List Int, y_ = (x3_1 ++ [t347]) := ⟨_, rfl⟩
     replace H : (pdu_words.l0 k1 l0 y349 (wrap64 (x4_1 + 2))) = some r := by first | (rw [hy349]; with_reducible exact H) | (have H2_ := (Option.bind_some _ _).symm.trans H; rw [hy349]; with_reducible exact H2_) | (have H2_ := (Option.bind_some _ _).symm.trans H; with_reducible exact H2_) | with_reducible exact H | (rw [hy349]; exact H) | exact H
     have Ny349 := Aside0.mk hy349
     clear hy349
     have H' := Aside0.mk H
     clear H
     go_wp2_with (first | ((with_reducible refine gate_callee (f := 73) rfl ?_); refine goesL_ (some 17) rfl rfl Try.func73 (by kernel_rfl) rfl #[.slice A0 l0.length c0, .int .i64 x4_1] rfl ar_ ?_; (with_reducible refine (wire_At.calls _ _ l0 x4_1 t347 t348 _ ?side1 ?side2 A3.out).mono ?_); (case side1 => exact sc_ (Kd.C_below HR0.out HB.out)); (case side2 => exact HC0.out); rintro e w' ⟨rfl, ⟨nd, rfl⟩⟩; refine ⟨_, rfl, ?_⟩) | ((with_reducible refine gate_builtin (b := .append) (xs := #[.tmp 20, .tmp 22]) rfl ?_); at_builtin; refine Kd.R_append (Kd.int .i64) (w0 := w) w.heap.size rfl (.tmp 20) (.tmp 22) 22 3 (.int .i64 0) 8 rfl Try.underlying22 info3 rfl (by decide) (by omega) u3 x3_1 t347 [.int .i64 t347] (fun _ => True) (fun _ => False) rfl rfl ?aP (fun _ hk => hk.elim) ?aF ?aO ?aB ?aS ?aL ?_; (case aP => exact rfl); (case aB => exact (bl0_ HB)); (case aF => exact (fun _ _ => trivial)); (case aO => exact (kr_ HO_3)); (case aS => exact (below_size (bl0_ HB))); (case aL => have := LMc4.out; omega); intro v350 w5 ho hb hg hat; rw [← Ny349.out] at ho; have n0_ := Aside0.mk (hb); have n1_ := Aside0.mk (ho); clear HB; clear HO_3; have HB := n0_; have HO351 := n1_; clear n0_ n1_; clear ho hb hg hat))
     go_roundg k1
     case measure => have := HK1.out; omega
     case rel => exact ⟨(y349), (wrap64 (x4_1 + 2)), (by first | rfl | (simp; done) | (simp [*]; done)), H', ⟨by have := HK1.out; omega⟩, ⟨kr_ HO351⟩, ⟨bl0_ HB⟩⟩
    ·rw [if_neg c4] at H
     exact absurd H (by simp)
   ·rw [if_neg c2] at H
    have c2b0 : decide ((wrap64 (x4_1 + 1)) < (l0.length : Int)) = false := decide_eq_false c2
    clear c2
    obtain rfl := Option.some.inj H
    go_wp2
    go_ret
    exact ⟨_, er_, kr_ HO_3, bl0_ HB⟩
def wire_Unpack.l0 : Nat → List Int → List Int → Int → Int → Option (List Int × Int)
 | 0, _, _, _, _ => none
 | k + 1, x0, x6, x20, x21 => if x21 < x20 then (if 0 ≤ (wrap64 (Int.tdiv x21 8)) then (if (wrap64 (Int.tdiv x21 8)) < (x0.length : Int) then (if 0 ≤ (Int.tmod x21 8) then (if 0 ≤ x21 then (if x21 < (x6.length : Int) then (wire_Unpack.l0 k x0 (x6.set (x21 : Int).toNat (Go.bits .and .i64 (wrap64 (shr .u8 (rd x0 (wrap64 (Int.tdiv x21 8))) (Int.tmod x21 8))) 1)) x20 (wrap64 (x21 + 1))) else (none)) else (none)) else (none)) else (none)) else (none)) else (some (x6, 0))
def wire_Unpack.f (k : Nat) (l0 : List Int) (a1 : Int) : Option (List Int × Int) := if a1 < 0 then (some (([] : List Int), 1)) else (if a1 > (wrap64 (8 * (l0.length : Int))) then (some (([] : List Int), 7)) else (if 0 ≤ a1 then (if (a1 : Int).toNat ≤ 35184372088832 then ((some (List.replicate (a1 : Int).toNat 0 : List Int)).bind fun y352 => (wire_Unpack.l0 k l0 y352 (y352.length : Int) 0)) else (none)) else (none)))
theorem wire_Unpack.mono_l : ∀ k, (∀ y0 y1 y2 y3, LeO (wire_Unpack.l0 k y0 y1 y2 y3) (wire_Unpack.l0 (k + 1) y0 y1 y2 y3))
 | 0 => fun _ _ _ _ r h => by simp [wire_Unpack.l0] at h
 | k + 1 => by
  have ih0 := wire_Unpack.mono_l k
  ·intro y0 y1 y2 y3
   unfold wire_Unpack.l0
   repeat' first
   | (with_reducible exact ih0 _ _ _ _)
   | (with_reducible exact LeO.refl _)
   | (with_reducible exact LeO.none _)
   | (with_reducible refine LeO.ite ?_ ?_)
   | (with_reducible refine LeO.bind ?_ (fun _ => ?_))
   | exact ih0 _ _ _ _
   | exact LeO.none _
   | refine LeO.ite ?_ ?_
   | refine LeO.bind ?_ (fun _ => ?_)
theorem wire_Unpack.mono : ∀ a0 a1 k, LeO (wire_Unpack.f k a0 a1) (wire_Unpack.f (k + 1) a0 a1) := by
 intro a0 a1 k
 have ih0 := wire_Unpack.mono_l k
 unfold wire_Unpack.f
 repeat' first
  | (with_reducible exact ih0 _ _ _ _)
  | (with_reducible exact LeO.refl _)
  | (with_reducible exact LeO.none _)
  | (with_reducible refine LeO.ite ?_ ?_)
  | (with_reducible refine LeO.bind ?_ (fun _ => ?_))
  | exact ih0 _ _ _ _
  | exact LeO.none _
  | refine LeO.ite ?_ ?_
  | refine LeO.bind ?_ (fun _ => ?_)
set_option maxHeartbeats 8000000 in
set_option maxRecDepth 100000 in
theorem wire_Unpack.calls (k : Nat) (A0 : Option Addr) (c0 : Nat) (l0 : List Int) (a1 : Int) (r1 : List Int) (r2 : Int) (w : World) (hr0 : Kd.C (Kd.int .u8) w A0 l0.length l0) (hc0 : l0.length ≤ c0) (h : wire_Unpack.f k l0 a1 = some (r1, r2)) :
 Calls Try.prog 60 #[.slice A0 l0.length c0, .int .i64 a1] w fun e w' => ∃ v0_ : Value, e = .returned (.tuple #[v0_, .int .i64 r2]) ∧ Kd.R (Kd.int .i64) 3 w' w.heap.size (fun _ => True) v0_ r1 ∧ Below w.heap.size w w' := by
 have HR0 := Aside0.mk hr0
 have HC0 := Aside0.mk hc0
 clear hr0 hc0
 have HB := Aside0.mk (Below.refl w.heap.size w)
 have H : (if a1 < 0 then (some (([] : List Int), 1)) else (if a1 > (wrap64 (8 * (l0.length : Int))) then (some (([] : List Int), 7)) else (if 0 ≤ a1 then (if (a1 : Int).toNat ≤ 35184372088832 then ((some (List.replicate (a1 : Int).toNat 0 : List Int)).bind fun y352 => (wire_Unpack.l0 k l0 y352 (y352.length : Int) 0)) else (none)) else (none)))) = some (r1, r2) := h
 clear h
 by_cases c3 : a1 < 0
 ·rw [if_pos c3] at H
  have c3b0 : decide (a1 < 0) = true := decide_eq_true c3
  clear c3
  simp only [Option.some.injEq, Prod.mk.injEq] at H
  obtain ⟨rfl, rfl⟩ := H
  go_enter Try.func60, Try.ntmps60
  go_wp2
  go_ret2
  exact ⟨_, er_, by first | exact Kd.R_nil _ _ _ _ _ | exact Kd.N_nil _ _ _ _ _ | exact Kd.V_nil _ _ _ _ _ | exact Kd.Q_nil _ _ _ _ _ | exact Kd.S_nil _ _ _ _ _, bl0_ HB⟩
 ·rw [if_neg c3] at H
  have c3b0 : decide (a1 < 0) = false := decide_eq_false c3
  clear c3
  by_cases c4 : a1 > (wrap64 (8 * (l0.length : Int)))
  ·rw [if_pos c4] at H
   have c4b0 : decide ((wrap64 (8 * (l0.length : Int))) < a1) = true := decide_eq_true c4
   clear c4
   simp only [Option.some.injEq, Prod.mk.injEq] at H
   obtain ⟨rfl, rfl⟩ := H
   go_enter Try.func60, Try.ntmps60
   go_wp2
   go_ret2
   exact ⟨_, er_, by first | exact Kd.R_nil _ _ _ _ _ | exact Kd.N_nil _ _ _ _ _ | exact Kd.V_nil _ _ _ _ _ | exact Kd.Q_nil _ _ _ _ _ | exact Kd.S_nil _ _ _ _ _, bl0_ HB⟩
  ·rw [if_neg c4] at H
   have c4b0 : decide ((wrap64 (8 * (l0.length : Int))) < a1) = false := decide_eq_false c4
   clear c4
   by_cases c5 : 0 ≤ a1
   ·rw [if_pos c5] at H
    have c5b0 := eq_true c5
    have c5b1 : decide (0 ≤ a1) = true := decide_eq_true c5
    clear c5
    by_cases c6 : (a1 : Int).toNat ≤ 35184372088832
    ·rw [if_pos c6] at H
     have c6b0 := eq_true c6
     have c6b1 : decide ((a1 : Int).toNat ≤ 35184372088832) = true := decide_eq_true c6
     clear c6
     obtain ⟨y352, hy352⟩ : ∃ y_ : List Int, y_ = (List.replicate (a1 : Int).toNat 0) := ⟨_, rfl⟩
     replace H : (wire_Unpack.l0 k l0 y352 (y352.length : Int) 0) = some (r1, r2) := by first | (rw [hy352]; with_reducible exact H) | (have H2_ := (Option.bind_some _ _).symm.trans H; rw [hy352]; with_reducible exact H2_) | (have H2_ := (Option.bind_some _ _).symm.trans H; with_reducible exact H2_) | with_reducible exact H | (rw [hy352]; exact H) | exact H
     have Ny352 := Aside0.mk hy352
     clear hy352
     have H' := Aside0.mk H
     clear H
     go_enter Try.func60, Try.ntmps60
     go_wp2_with (first | ((with_reducible refine gate_dst (N := 18) rfl ?_); refine Kd.R_make (Kd.int .i64) _ 3 rfl (N := 18) rfl 22 _ _ rfl a1 rfl rfl Try.underlying22 (.int .i64 0) 8 info3 rfl (by decide) (by omega) 0 (ok := fun _ => True) (okp := fun _ => True) rfl (fun _ hk => hk) trivial (of_decide_eq_true (by first | (with_reducible assumption) | assumption)) (Nat.le_trans (Nat.mul_le_mul_right _ (of_decide_eq_true (by first | (with_reducible assumption) | assumption) : a1.toNat ≤ 35184372088832)) (by omega)) (Below.refl _ _) (Nat.le_refl _) ?_; intro v353 w7 ho8 hb hg_ hnew_; clear hg_ hnew_; (first | rw [← Ny352.out] at ho8 | (simp only [Int.reduceToNat] at ho8; rw [← Ny352.out] at ho8)); have n0_ := Aside0.mk (Kd.R_lower ho8 (below_size (bl0_ HB))); have n1_ := Aside0.mk (below_step (bl0_ HB) hb); clear HB; have HO354 := n0_; have HB := n1_; clear n0_ n1_; clear hb ho8; obtain ⟨Ao9, co9, eo9⟩ := Kd.R_slice HO354.out; subst eo9))
     go_loopg [21] k (fun kq v21 w' => ∃ (x6_1 : List Int) (x21_1 : Int), v21 = .int .i64 x21_1 ∧ Aside0 (wire_Unpack.l0 kq l0 x6_1 (y352.length : Int) x21_1 = some (r1, r2)) ∧ Aside0 (kq ≤ k) ∧ Aside0 (Kd.R (Kd.int .i64) 3 w' w.heap.size (fun _ => True) (.slice Ao9 y352.length co9) x6_1) ∧ Aside0 (Below w.heap.size w w'))
     case atStart => exact ⟨(y352), (0), (by first | rfl | (simp; done) | (simp [*]; done)), H', ⟨Nat.le_refl _⟩, ⟨kr_ HO354⟩, ⟨bl0_ HB⟩⟩
     case round =>
      clear H'
      try clear p2
      try clear c3
      try clear c3b0
      try clear c4
      try clear c4b0
      try clear c5
      try clear c5b0
      try clear c5b1
      try clear c6
      try clear c6b0
      try clear c6b1
      try clear p6
      obtain ⟨x6_1, x21_1, rfl, HA, HK1, HO_6, HB⟩ := hrel
      have hl6_1 := (Kd.R_reads' HO_6.out).1
      rw [hl6_1] at HO_6
      (try simp only [hl6_1])
      cases gk with
      | zero => exact absurd HA.out (by simp [wire_Unpack.l0])
      | succ k1 =>
       have H := HA.out
       clear HA
       simp only [wire_Unpack.l0] at H
       by_cases c10 : x21_1 < (y352.length : Int)
       ·rw [if_pos c10] at H
        have c10b0 : decide (x21_1 < (y352.length : Int)) = true := decide_eq_true c10
        clear c10
        obtain ⟨ji11, hji11⟩ : ∃ j_ : Int, (wrap64 (Int.tdiv x21_1 8)) = j_ := ⟨_, rfl⟩
        replace H : (if 0 ≤ (ji11) then (if (ji11) < (l0.length : Int) then (if 0 ≤ (Int.tmod x21_1 8) then (if 0 ≤ x21_1 then (if x21_1 < (x6_1.length : Int) then (wire_Unpack.l0 k1 l0 (x6_1.set (x21_1 : Int).toNat (Go.bits .and .i64 (wrap64 (shr .u8 (rd l0 (ji11)) (Int.tmod x21_1 8))) 1)) (y352.length : Int) (wrap64 (x21_1 + 1))) else (none)) else (none)) else (none)) else (none)) else (none)) = some (r1, r2) := by first | (rw [hji11] at H; exact H) | (simp only [hji11] at H ⊢; exact H)
        have hji11w : (IntKind.i64.wrap (Int.tdiv x21_1 8)) = ji11 := (i64_w _).trans hji11
        by_cases c12 : 0 ≤ (ji11)
        ·rw [if_pos c12] at H
         have c12b0 : decide (0 ≤ (ji11)) = true := decide_eq_true c12
         clear c12
         by_cases c13 : (ji11) < (l0.length : Int)
         ·rw [if_pos c13] at H
          have c13b0 : decide ((ji11) < (l0.length : Int)) = true := decide_eq_true c13
          clear c13
          obtain ⟨ji14, hji14⟩ : ∃ j_ : Int, (Int.tmod x21_1 8) = j_ := ⟨_, rfl⟩
          replace H : (if 0 ≤ (ji14) then (if 0 ≤ x21_1 then (if x21_1 < (x6_1.length : Int) then (wire_Unpack.l0 k1 l0 (x6_1.set (x21_1 : Int).toNat (Go.bits .and .i64 (wrap64 (shr .u8 (rd l0 (ji11)) (ji14))) 1)) (y352.length : Int) (wrap64 (x21_1 + 1))) else (none)) else (none)) else (none)) = some (r1, r2) := by first | (rw [hji14] at H; exact H) | (simp only [hji14] at H ⊢; exact H)
          by_cases c15 : 0 ≤ (ji14)
          ·rw [if_pos c15] at H
           have c15b0 := eq_true c15
           have c15b1 : decide (0 ≤ (ji14)) = true := decide_eq_true c15
           clear c15
           obtain ⟨ji16, hji16⟩ : ∃ j_ : Int, (shr .u8 (rd l0 (ji11)) (ji14)) = j_ := ⟨_, rfl⟩
           replace H : (if 0 ≤ x21_1 then (if x21_1 < (x6_1.length : Int) then (wire_Unpack.l0 k1 l0 (x6_1.set (x21_1 : Int).toNat (Go.bits .and .i64 (wrap64 (ji16)) 1)) (y352.length : Int) (wrap64 (x21_1 + 1))) else (none)) else (none)) = some (r1, r2) := by first | (rw [hji16] at H; exact H) | (simp only [hji16] at H ⊢; exact H)
           have hji16_ : ((rd l0 (ji11)) / 2 ^ min (ji14).toNat 8) = ji16 := hji16
           have hji16z : (ji14) ≤ 8 → ((rd l0 (ji11)) / 2 ^ (ji14).toNat) = ji16 := shr_small hji16
           by_cases c17 : 0 ≤ x21_1
           ·rw [if_pos c17] at H
            have c17b0 : decide (0 ≤ x21_1) = true := decide_eq_true c17
            clear c17
            by_cases c18 : x21_1 < (x6_1.length : Int)
            ·rw [if_pos c18] at H
             have c18b0 : decide (x21_1 < (x6_1.length : Int)) = true := decide_eq_true c18
             clear c18
             obtain ⟨y356, hy356⟩ : ∃ y_ : List Int, y_ = (x6_1.set (x21_1 : Int).toNat (Go.bits .and .i64 (wrap64 (ji16)) 1)) := ⟨_, rfl⟩
             replace H : (wire_Unpack.l0 k1 l0 y356 (y352.length : Int) (wrap64 (x21_1 + 1))) = some (r1, r2) := by first | (rw [hy356]; with_reducible exact H) | (have H2_ := (Option.bind_some _ _).symm.trans H; rw [hy356]; with_reducible exact H2_) | (have H2_ := (Option.bind_some _ _).symm.trans H; with_reducible exact H2_) | with_reducible exact H | (rw [hy356]; exact H) | exact H
             have Ny356 := Aside0.mk hy356
             clear hy356
             have H' := Aside0.mk H
             clear H
             have p355 : 0 ≤ ((ji11) : Int) := of_decide_eq_true (by first | (with_reducible assumption) | assumption)
             have q355 : (ji11) < (l0.length : Int) := of_decide_eq_true (by first | (with_reducible assumption) | assumption)
             obtain ⟨ad355, e355, hx355_0⟩ := Kd.at_int HR0.out (ji11) p355 q355
             cases e355
             replace hx355_0 := (HB.out.cell (World.block_lt_of_cell? w _ hx355_0)).trans hx355_0
             replace p355 := eq_true p355
             replace q355 := eq_true q355
             have p19 : 0 ≤ (x21_1 : Int) := of_decide_eq_true (by first | (with_reducible assumption) | assumption)
             have q19 : (x21_1 : Int) < ((x6_1.length : Int) : Int) := of_decide_eq_true (by first | (with_reducible assumption) | assumption)
             obtain ⟨go19, co19, eo19, gb19, gl19, cl19, HG19⟩ := Kd.R_form HO_6.out (by omega)
             (first | cases eo19 | (injection eo19 with ea_ en_ ec_; (first | subst ea_ | (injection ea_ with ea_; subst ea_)); subst ec_; clear en_))
             have GB19 := Aside0.mk gb19
             have GG19 := Aside0.mk HG19
             clear gb19 gl19 HG19
             obtain ⟨hx19_0, hf19_0⟩ := Kd.R_celln 0 HO_6.out (x21_1 : Int) p19 q19
             replace p19 := eq_true p19
             replace q19 := eq_true q19
             have HP20 := Kd.R_putg HO_6.out (x21_1 : Int) (Go.bits .and .i64 (wrap64 (ji16)) 1)
             go_wp2_with (first | ((with_reducible refine gate_store (t := 3) (p := 36) rfl ?_); refine store_event (t := 3) (p := 36) (v := ?vo_w21) (w1 := (wr.setCell ⟨go19, (x21_1 : Int).toNat, none⟩ (.int .i64 (Go.bits .and .i64 (wrap64 (ji16)) 1)))) ?hg ?ho ?hn ?hr ?_; (case ho => rfl); (case hg => rfl); (case hn => rfl); (case hr => first | (go_simp; done) | (go_simp; rfl)); intro w21 hw; have hg : wr.grownBy w21 (some go19) := (by rw [hw]; exact HP20.2); have hp_ : Kd.R (Kd.int .i64) 3 w21 w.heap.size (fun _ => True) (.slice (some ⟨go19, 0, none⟩) x6_1.length co9) y356 := (by rw [hw, Ny356.out]; exact HP20.1); clear HP20; have n0_ := Aside0.mk (hp_); have n1_ := Aside0.mk ((by rw [hw]; exact below_set (HB.out) GB19.out : Below w.heap.size w w21)); clear HO_6; clear HB; have HO_6 := n0_; have HB := n1_; clear n0_ n1_; clear hg hw hp_))
             (try simp only [← hl6_1])
             go_roundg k1
             case measure => have := HK1.out; omega
             case rel => exact ⟨(y356), (wrap64 (x21_1 + 1)), (by first | rfl | (simp; done) | (simp [*]; done)), H', ⟨by have := HK1.out; omega⟩, ⟨by (try simp only [hl6_1]); (with_reducible repeat (first | apply Kd.R_alloc | apply Kd.R_drewN | apply Kd.R_drew)); exact HO_6.out⟩, ⟨bl0_ HB⟩⟩
            ·rw [if_neg c18] at H
             exact absurd H (by simp)
           ·rw [if_neg c17] at H
            exact absurd H (by simp)
          ·rw [if_neg c15] at H
           exact absurd H (by simp)
         ·rw [if_neg c13] at H
          exact absurd H (by simp)
        ·rw [if_neg c12] at H
         exact absurd H (by simp)
       ·rw [if_neg c10] at H
        have c10b0 : decide (x21_1 < (y352.length : Int)) = false := decide_eq_false c10
        have c10b1 : decide (x21_1 < (x6_1.length : Int)) = false := by rw [← hl6_1]; exact c10b0
        clear c10
        simp only [Option.some.injEq, Prod.mk.injEq] at H
        obtain ⟨rfl, rfl⟩ := H
        go_wp2
        go_ret2
        exact ⟨_, er_, kr_ HO_6, bl0_ HB⟩
    ·rw [if_neg c6] at H
     exact absurd H (by simp)
   ·rw [if_neg c5] at H
    exact absurd H (by simp)
def bytes_Equal.f (l0 : List Int) (l1 : List Int) : Option (Bool) := some ((strOfNums l0).toList == (strOfNums l1).toList)
set_option maxHeartbeats 8000000 in
set_option maxRecDepth 100000 in
theorem bytes_Equal.calls (A0 : Option Addr) (c0 : Nat) (l0 : List Int) (A1 : Option Addr) (c1 : Nat) (l1 : List Int) (r : Bool) (w : World) (hr0 : Kd.C (Kd.int .u8) w A0 l0.length l0) (hc0 : l0.length ≤ c0) (hr1 : Kd.C (Kd.int .u8) w A1 l1.length l1) (hc1 : l1.length ≤ c1) (h : bytes_Equal.f l0 l1 = some r) :
 Calls Try.prog 62 #[.slice A0 l0.length c0, .slice A1 l1.length c1] w fun e w' => e = .returned (.bool r) ∧ Drawn0 w w' := by
 have HR0 := Aside0.mk hr0
 have HC0 := Aside0.mk hc0
 clear hr0 hc0
 have HR1 := Aside0.mk hr1
 have HC1 := Aside0.mk hc1
 clear hr1 hc1
 have H : (some ((strOfNums l0).toList == (strOfNums l1).toList)) = some r := h
 clear h
 obtain rfl := Option.some.inj H
 have hcv3 := Kd.C_string (P := Try.prog) (A := A0) (c := c0) Try.underlying58 Try.underlying5 Try.underlying9 HR0.out
 have hcv4 := Kd.C_string (P := Try.prog) (A := A1) (c := c1) Try.underlying58 Try.underlying5 Try.underlying9 HR1.out
 go_enter Try.func62, Try.ntmps62
 go_wp2
 go_ret
 exact ⟨by first | rfl | (simp; done) | (simp [*]; done), by repeat (first | exact Drawn0.refl _ | apply Drawn0.step)⟩
def bytes_Equal.Pure : Prop := ∀ (l0 : List Int) (l1 : List Int), l0.length ≤ maxLen → l0.length * 1 ≤ 140737488351232 → (∀ x ∈ l0, (Lit.int .u8 x).wf = true) → l1.length ≤ maxLen → l1.length * 1 ≤ 140737488351232 → (∀ x ∈ l1, (Lit.int .u8 x).wf = true) → bytes_Equal.f l0 l1 = some true
theorem bytes_Equal.walk (P : bytes_Equal.Pure) (a0 : Option Addr) (len0 cap0 : Nat) (z0 : List Int) (a1 : Option Addr) (len1 cap1 : Nat) (z1 : List Int) (w : World) (w0 : (a0 = none ∧ len0 = 0 ∧ cap0 = 0 ∧ z0 = []) ∨ ∃ x, a0 = some x ∧ len0 ≤ cap0 ∧ cap0 ≤ maxLen ∧ z0.length = cap0 ∧ (∀ i, i < z0.length → w.cell? (x.add i) = some (.int .u8 (z0.getD i 0))) ∧ ∀ n ∈ z0, (Lit.int .u8 n).wf = true) (y0 : len0 * 1 ≤ 140737488351232) (w1 : (a1 = none ∧ len1 = 0 ∧ cap1 = 0 ∧ z1 = []) ∨ ∃ x, a1 = some x ∧ len1 ≤ cap1 ∧ cap1 ≤ maxLen ∧ z1.length = cap1 ∧ (∀ i, i < z1.length → w.cell? (x.add i) = some (.int .u8 (z1.getD i 0))) ∧ ∀ n ∈ z1, (Lit.int .u8 n).wf = true) (y1 : len1 * 1 ≤ 140737488351232) :
 Calls Try.prog 62 #[.slice a0 len0 cap0, .slice a1 len1 cap1] w fun e w' => e = .returned (.bool true) ∧ Below w.heap.size w w' := by
 obtain ⟨l0, rfl, hr0, hm0, hw0, hc0⟩ := ReadsInt.ofRowC w0
 obtain ⟨l1, rfl, hr1, hm1, hw1, hc1⟩ := ReadsInt.ofRowC w1
 have h := P l0 l1 hm0 y0 hw0 hm1 y1 hw1
 refine (bytes_Equal.calls _ _ l0 _ _ l1 true w (Kd.C_of_reads (d := (0 : Int)) (h1 := fun _ => rfl) hr0) hc0 (Kd.C_of_reads (d := (0 : Int)) (h1 := fun _ => rfl) hr1) hc1 h).mono ?_
 rintro e w' ⟨rfl, hd⟩
 exact ⟨rfl, hd.below⟩
end Go.Proofs.Ytocicifgglkaeaa.PR
end

section
namespace Go.Proofs.Ytocicifgglkaeaa.PR
open Go.RowKit Go.Proofs.YtocicifgglkaeaaW.PrintWords Go.Proofs.YtocicifgglkaeaaW.PrintLast Go.Proofs.YtocicifgglkaeaaW.PrintMore
attribute [local go_sem] max2_int min2_int max_two min_two max_three min_three max_four min_four   
set_option linter.unusedVariables false
set_option linter.unusedSimpArgs false
open Go.Proofs.Ytocicifgglkaeaa.Ext Go.Proofs.Ytocicifgglkaeaa.PP Go.Proofs.Ytocicifgglkaeaa.ExtF Go.Proofs.Ytocicifgglkaeaa.PQ Go.Proofs.Ytocicifgglkaeaa.ExtM
def basculeref01_Word.f (a0 : Int) : Option (List Int) := some (([(wrap64 (Int.tdiv a0 256)) % 256, (Int.tmod a0 256) % 256] : List Int))
set_option maxHeartbeats 8000000 in
set_option maxRecDepth 100000 in
theorem basculeref01_Word.calls (a0 : Int) (r : List Int) (w : World) (h : basculeref01_Word.f a0 = some r) :
 Calls Try.prog 71 #[.int .i64 a0] w fun e w' => ∃ v0_ : Value, e = .returned (v0_) ∧ Kd.R (Kd.int .u8) 5 w' w.heap.size (fun _ => True) v0_ r ∧ Below w.heap.size w w' := by
 have HB := Aside0.mk (Below.refl w.heap.size w)
 have H : (some (([(wrap64 (Int.tdiv a0 256)) % 256, (Int.tmod a0 256) % 256] : List Int))) = some r := h
 clear h
 obtain ⟨y101, hy101⟩ : ∃ y_ : List Int, y_ = (([(wrap64 (Int.tdiv a0 256)) % 256, (Int.tmod a0 256) % 256] : List Int)) := ⟨_, rfl⟩
 replace H : (some y101) = some r := by first | (rw [hy101]; with_reducible exact H) | (have H2_ := (Option.bind_some _ _).symm.trans H; rw [hy101]; with_reducible exact H2_) | (have H2_ := (Option.bind_some _ _).symm.trans H; with_reducible exact H2_) | with_reducible exact H | (rw [hy101]; exact H) | exact H
 have Ny101 := Aside0.mk hy101
 clear hy101
 obtain rfl := Option.some.inj H
 go_enter Try.func71, Try.ntmps71
 go_wp2_with (first | ((with_reducible refine gate_dst (N := 9) rfl ?_); refine Kd.R_lit (Kd.int .u8) _ 5 ?hg (N := 9) ?hd (xs := ([(wrap64 (Int.tdiv a0 256)) % 256, (Int.tmod a0 256) % 256] : List Int)) (inner := [.int .u8 ((wrap64 (Int.tdiv a0 256)) % 256), .int .u8 ((Int.tmod a0 256) % 256)]) (ok := fun _ => True) (okp := fun _ => True) ?hr ?hp (fun _ hk => hk) trivial (Below.refl _ _) (Nat.le_refl _) (by simp) ?_; (case hd => rfl); (case hg => rfl); (case hr => first | (go_simp; done) | (go_simp; rfl)); (case hp => exact (Reps.one (show Kd.M (Kd.int .u8) _ _ _ ((wrap64 (Int.tdiv a0 256)) % 256) [.int .u8 ((wrap64 (Int.tdiv a0 256)) % 256)] from rfl) (Reps.one (show Kd.M (Kd.int .u8) _ _ _ ((Int.tmod a0 256) % 256) [.int .u8 ((Int.tmod a0 256) % 256)] from rfl) (Reps.none _ _)))); intro v102 w2 ho3 hb hg_ hnew_; clear hg_ hnew_; (first | rw [← Ny101.out] at ho3 | (simp only [Int.reduceToNat] at ho3; rw [← Ny101.out] at ho3)); have n0_ := Aside0.mk (Kd.R_lower ho3 (below_size (bl0_ HB))); have n1_ := Aside0.mk (below_step (bl0_ HB) hb); clear HB; have HO103 := n0_; have HB := n1_; clear n0_ n1_; clear hb ho3))
 go_ret
 exact ⟨_, er_, kr_ HO103, bl0_ HB⟩
def basculeref03_lay.l0 : Nat → List Int → List Int → Int → Option (List Int)
 | 0, _, _, _ => none
 | k + 1, x0, x3, x4 => if x4 < (x0.length : Int) then (if 0 ≤ x4 then ((basculeref01_Word.f (rd x0 x4)).bind fun t105 => (if x3.length + t105.length < 140737488355328 then (basculeref03_lay.l0 k x0 (x3 ++ t105) (wrap64 (x4 + 1))) else (none))) else (none)) else (some x3)
def basculeref03_lay.f (k : Nat) (l0 : List Int) : Option (List Int) := basculeref03_lay.l0 k l0 ([] : List Int) 0
theorem basculeref03_lay.mono_l : ∀ k, (∀ y0 y1 y2, LeO (basculeref03_lay.l0 k y0 y1 y2) (basculeref03_lay.l0 (k + 1) y0 y1 y2))
 | 0 => fun _ _ _ r h => by simp [basculeref03_lay.l0] at h
 | k + 1 => by
  have ih0 := basculeref03_lay.mono_l k
  ·intro y0 y1 y2
   unfold basculeref03_lay.l0
   repeat' first
   | (with_reducible exact ih0 _ _ _)
   | (with_reducible exact LeO.refl _)
   | (with_reducible exact LeO.none _)
   | (with_reducible refine LeO.ite ?_ ?_)
   | (with_reducible refine LeO.bind ?_ (fun _ => ?_))
   | exact ih0 _ _ _
   | exact LeO.none _
   | refine LeO.ite ?_ ?_
   | refine LeO.bind ?_ (fun _ => ?_)
theorem basculeref03_lay.mono : ∀ a0 k, LeO (basculeref03_lay.f k a0) (basculeref03_lay.f (k + 1) a0) := by
 intro a0 k
 have ih0 := basculeref03_lay.mono_l k
 unfold basculeref03_lay.f
 repeat' first
  | (with_reducible exact ih0 _ _ _)
  | (with_reducible exact LeO.refl _)
  | (with_reducible exact LeO.none _)
  | (with_reducible refine LeO.ite ?_ ?_)
  | (with_reducible refine LeO.bind ?_ (fun _ => ?_))
  | exact ih0 _ _ _
  | exact LeO.none _
  | refine LeO.ite ?_ ?_
  | refine LeO.bind ?_ (fun _ => ?_)
set_option maxHeartbeats 8000000 in
set_option maxRecDepth 100000 in
theorem basculeref03_lay.calls (k : Nat) (A0 : Option Addr) (c0 : Nat) (l0 : List Int) (r : List Int) (w : World) (hr0 : Kd.C (Kd.int .i64) w A0 l0.length l0) (hc0 : l0.length ≤ c0) (h : basculeref03_lay.f k l0 = some r) :
 Calls Try.prog 56 #[.slice A0 l0.length c0] w fun e w' => ∃ v0_ : Value, e = .returned (v0_) ∧ Kd.R (Kd.int .u8) 5 w' w.heap.size (fun _ => True) v0_ r ∧ Below w.heap.size w w' := by
 have HR0 := Aside0.mk hr0
 have HC0 := Aside0.mk hc0
 clear hr0 hc0
 have HB := Aside0.mk (Below.refl w.heap.size w)
 have H : (basculeref03_lay.l0 k l0 ([] : List Int) 0) = some r := h
 clear h
 have H' := Aside0.mk H
 clear H
 go_enter Try.func56, Try.ntmps56
 go_wp2
 go_loopg [3, 4] k (fun kq v3 v4 w' => ∃ (x3_1 : List Int) (x4_1 : Int), v4 = .int .i64 x4_1 ∧ Aside0 (basculeref03_lay.l0 kq l0 x3_1 x4_1 = some r) ∧ Aside0 (kq ≤ k) ∧ Aside0 (Kd.R (Kd.int .u8) 5 w' w.heap.size (fun _ => True) v3 x3_1) ∧ Aside0 (Below w.heap.size w w'))
 case atStart => exact ⟨(([] : List Int)), (0), (by first | rfl | (simp; done) | (simp [*]; done)), H', ⟨Nat.le_refl _⟩, ⟨by first | exact Kd.R_nil _ _ _ _ _ | exact Kd.N_nil _ _ _ _ _ | exact Kd.V_nil _ _ _ _ _ | exact Kd.Q_nil _ _ _ _ _ | exact Kd.S_nil _ _ _ _ _⟩, ⟨bl0_ HB⟩⟩
 case round =>
  clear H'
  obtain ⟨x3_1, x4_1, rfl, HA, HK1, HO_3, HB⟩ := hrel
  cases gk with
  | zero => exact absurd HA.out (by simp [basculeref03_lay.l0])
  | succ k1 =>
   have H := HA.out
   clear HA
   simp only [basculeref03_lay.l0] at H
   by_cases c2 : x4_1 < (l0.length : Int)
   ·rw [if_pos c2] at H
    have c2b0 : decide (x4_1 < (l0.length : Int)) = true := decide_eq_true c2
    clear c2
    by_cases c3 : 0 ≤ x4_1
    ·rw [if_pos c3] at H
     have c3b0 : decide (0 ≤ x4_1) = true := decide_eq_true c3
     clear c3
     replace H := Option.bind_eq_some_iff.mp H
     obtain ⟨t105, A40, H⟩ := H
     replace H : (if x3_1.length + t105.length < 140737488355328 then (basculeref03_lay.l0 k1 l0 (x3_1 ++ t105) (wrap64 (x4_1 + 1))) else (none)) = some r := H
     have A4 := Aside0.mk A40
     clear A40
     by_cases c5 : x3_1.length + t105.length < 140737488355328
     ·rw [if_pos c5] at H
      have LMc5 := Aside0.mk c5
      clear c5
      obtain ⟨y108, hy108⟩ : ∃ y_ : List Int, y_ = (x3_1 ++ t105) := ⟨_, rfl⟩
      replace H : (basculeref03_lay.l0 k1 l0 y108 (wrap64 (x4_1 + 1))) = some r := by first | (rw [hy108]; with_reducible exact H) | (have H2_ := (Option.bind_some _ _).symm.trans H; rw [hy108]; with_reducible exact H2_) | (have H2_ := (Option.bind_some _ _).symm.trans H; with_reducible exact H2_) | with_reducible exact H | (rw [hy108]; exact H) | exact H
      have Ny108 := Aside0.mk hy108
      clear hy108
      have H' := Aside0.mk H
      clear H
      have p104 : 0 ≤ (x4_1 : Int) := of_decide_eq_true (by first | (with_reducible assumption) | assumption)
      have q104 : x4_1 < (l0.length : Int) := of_decide_eq_true (by first | (with_reducible assumption) | assumption)
      obtain ⟨ad104, e104, hx104_0⟩ := Kd.at_int HR0.out x4_1 p104 q104
      cases e104
      replace hx104_0 := (HB.out.cell (World.block_lt_of_cell? w _ hx104_0)).trans hx104_0
      replace p104 := eq_true p104
      replace q104 := eq_true q104
      go_wp2_with (first | ((with_reducible refine gate_callee (f := 71) rfl ?_); refine goesL_ (some 16) rfl rfl Try.func71 (by kernel_rfl) rfl #[.int .i64 (rd l0 x4_1)] rfl ar_ ?_; (with_reducible refine (basculeref01_Word.calls (rd l0 x4_1) t105 _ A4.out).mono ?_); rintro e w6 ⟨v106, rfl, ho0, hb⟩; refine ⟨_, rfl, ?_⟩; have n0_ := Aside0.mk (Kd.R_elder' (kr_ HO_3) (Kd.R_base ho0) hb); have n1_ := Aside0.mk (Kd.R_lower (Kd.R_new' ho0 (Kd.R_lt (kr_ HO_3))) (below_size (bl0_ HB))); have n2_ := Aside0.mk (below_step (bl0_ HB) hb); clear HO_3; clear HB; have HO_3 := n0_; have HO107 := n1_; have HB := n2_; clear n0_ n1_ n2_; (try clear hb); (try clear hb2); (try clear hk); (try clear hi); (try clear ho0); obtain ⟨Ao8, co8, eo8⟩ := Kd.R_slice HO107.out; subst eo8) | ((with_reducible refine gate_builtin (b := .append) (xs := #[.tmp 11, .tmp 16]) rfl ?_); at_builtin; refine Kd.R_append_rows (Kd.int .u8) (w0 := w) w.heap.size rfl (.tmp 11) (.tmp 16) 58 5 (.int .u8 0) 1 rfl Try.underlying58 info5 rfl (by decide) (by omega) u3 x3_1 t105 _ _ _ (fun k_ => some k_ ≠ (.slice Ao8 t105.length co8 : Value).ownBlock) (fun _ => False) rfl rfl ?aO ?aR (fun _ _ h => h) (fun _ h => h.elim) ?aF ?aB ?aS ?aL ?_; (case aR => exact sc_ (Kd.R_reads' HO107.out).2.2); (case aB => exact (bl0_ HB)); (case aF => exact (fun k_ hk => Kd.fresh' (Kd.R_lt (kr_ HO107)) k_ hk)); (case aO => exact (by (with_reducible repeat (first | apply Kd.R_alloc | apply Kd.R_drewN | apply Kd.R_drew)); exact Kd.R_mono HO_3.out (fun _ hk => hk.2))); (case aS => exact (below_size (bl0_ HB))); (case aL => have := LMc5.out; omega); intro v109 w7 ho hb hg hat; rw [← Ny108.out] at ho; have n0_ := Aside0.mk (Kd.R_after (ok := (fun _ => True)) (kr_ HO107) hg hat); have n1_ := Aside0.mk (hb); have n2_ := Aside0.mk (ho); clear HO107; clear HB; clear HO_3; have HO107 := n0_; have HB := n1_; have HO110 := n2_; clear n0_ n1_ n2_; clear ho hb hg hat))
      go_roundg k1
      case measure => have := HK1.out; omega
      case rel => exact ⟨(y108), (wrap64 (x4_1 + 1)), (by first | rfl | (simp; done) | (simp [*]; done)), H', ⟨by have := HK1.out; omega⟩, ⟨by (with_reducible repeat (first | apply Kd.R_alloc | apply Kd.R_drewN | apply Kd.R_drew)); exact Kd.R_mono HO110.out (fun _ hk => trivial)⟩, ⟨bl0_ HB⟩⟩
     ·rw [if_neg c5] at H
      exact absurd H (by simp)
    ·rw [if_neg c3] at H
     exact absurd H (by simp)
   ·rw [if_neg c2] at H
    have c2b0 : decide (x4_1 < (l0.length : Int)) = false := decide_eq_false c2
    clear c2
    obtain rfl := Option.some.inj H
    go_wp2
    go_ret
    exact ⟨_, er_, kr_ HO_3, bl0_ HB⟩
def basculeref01_Both.f (l0 : List Int) (l1 : List Int) : Option (List Int) := if ([] : List Int).length + l0.length < 140737488355328 then ((some (([] : List Int) ++ l0 : List Int)).bind fun y111 => (if y111.length + l1.length < 140737488355328 then (some (y111 ++ l1)) else (none))) else (none)
set_option maxHeartbeats 8000000 in
set_option maxRecDepth 100000 in
theorem basculeref01_Both.calls (A0 : Option Addr) (c0 : Nat) (l0 : List Int) (A1 : Option Addr) (c1 : Nat) (l1 : List Int) (r : List Int) (w : World) (hr0 : Kd.C (Kd.int .u8) w A0 l0.length l0) (hc0 : l0.length ≤ c0) (hr1 : Kd.C (Kd.int .u8) w A1 l1.length l1) (hc1 : l1.length ≤ c1) (h : basculeref01_Both.f l0 l1 = some r) :
 Calls Try.prog 72 #[.slice A0 l0.length c0, .slice A1 l1.length c1] w fun e w' => ∃ v0_ : Value, e = .returned (v0_) ∧ Kd.R (Kd.int .u8) 5 w' w.heap.size (fun _ => True) v0_ r ∧ Below w.heap.size w w' := by
 have HR0 := Aside0.mk hr0
 have HC0 := Aside0.mk hc0
 clear hr0 hc0
 have HR1 := Aside0.mk hr1
 have HC1 := Aside0.mk hc1
 clear hr1 hc1
 have HB := Aside0.mk (Below.refl w.heap.size w)
 have H : (if ([] : List Int).length + l0.length < 140737488355328 then ((some (([] : List Int) ++ l0 : List Int)).bind fun y111 => (if y111.length + l1.length < 140737488355328 then (some (y111 ++ l1)) else (none))) else (none)) = some r := h
 clear h
 by_cases c3 : ([] : List Int).length + l0.length < 140737488355328
 ·rw [if_pos c3] at H
  have LMc3 := Aside0.mk c3
  clear c3
  obtain ⟨y111, hy111⟩ : ∃ y_ : List Int, y_ = (([] : List Int) ++ l0) := ⟨_, rfl⟩
  replace H : (if y111.length + l1.length < 140737488355328 then (some (y111 ++ l1)) else (none)) = some r := by first | (rw [hy111]; with_reducible exact H) | (have H2_ := (Option.bind_some _ _).symm.trans H; rw [hy111]; with_reducible exact H2_) | (have H2_ := (Option.bind_some _ _).symm.trans H; with_reducible exact H2_) | with_reducible exact H | (rw [hy111]; exact H) | exact H
  have Ny111 := Aside0.mk hy111
  clear hy111
  by_cases c4 : y111.length + l1.length < 140737488355328
  ·rw [if_pos c4] at H
   have LMc4 := Aside0.mk c4
   clear c4
   obtain ⟨y114, hy114⟩ : ∃ y_ : List Int, y_ = (y111 ++ l1) := ⟨_, rfl⟩
   replace H : (some y114) = some r := by first | (rw [hy114]; with_reducible exact H) | (have H2_ := (Option.bind_some _ _).symm.trans H; rw [hy114]; with_reducible exact H2_) | (have H2_ := (Option.bind_some _ _).symm.trans H; with_reducible exact H2_) | with_reducible exact H | (rw [hy114]; exact H) | exact H
   have Ny114 := Aside0.mk hy114
   clear hy114
   obtain rfl := Option.some.inj H
   go_enter Try.func72, Try.ntmps72
   go_wp2_with (first | ((with_reducible refine gate_builtin (b := .append) (xs := #[.tmp 6, .tmp 7]) rfl ?_); at_builtin; refine Kd.R_append_rows (Kd.int .u8) (w0 := w) w.heap.size rfl (.tmp 6) (.tmp 7) 58 5 (.int .u8 0) 1 rfl Try.underlying58 info5 rfl (by decide) (by omega) (.slice none 0 0) ([] : List Int) l0 _ _ _ (fun _ => True) (fun _ => False) rfl rfl ?aO ?aR (fun _ _ h => h) (fun _ h => h.elim) ?aF ?aB ?aS ?aL ?_; (case aR => repeat (first | exact HR0.out | (with_reducible refine Kd.C_alloc ?_ _) | (with_reducible refine Kd.C_drewN ?_ _) | (with_reducible refine Kd.C_drew ?_))); (case aB => exact (bl0_ HB)); (case aF => exact (fun _ _ => trivial)); (case aO => exact ((Kd.R_nil _ _ _ _ (fun _ => True)))); (case aS => exact (below_size (bl0_ HB))); (case aL => have := LMc3.out; omega); intro v112 w5 ho hb hg hat; rw [← Ny111.out] at ho; have n0_ := Aside0.mk (hb); have n1_ := Aside0.mk (ho); clear HB; have HB := n0_; have HO113 := n1_; clear n0_ n1_; clear ho hb hg hat) | ((with_reducible refine gate_builtin (b := .append) (xs := #[.tmp 9, .tmp 10]) rfl ?_); at_builtin; refine Kd.R_append_rows (Kd.int .u8) (w0 := w) w.heap.size rfl (.tmp 9) (.tmp 10) 58 5 (.int .u8 0) 1 rfl Try.underlying58 info5 rfl (by decide) (by omega) v112 y111 l1 _ _ _ (fun _ => True) (fun _ => False) rfl rfl ?aO ?aR (fun _ _ h => h) (fun _ h => h.elim) ?aF ?aB ?aS ?aL ?_; (case aR => exact sc_ (Kd.C_below HR1.out HB.out)); (case aB => exact (bl0_ HB)); (case aF => exact (fun _ _ => trivial)); (case aO => exact (kr_ HO113)); (case aS => exact (below_size (bl0_ HB))); (case aL => have := LMc4.out; omega); intro v115 w6 ho hb hg hat; rw [← Ny114.out] at ho; have n0_ := Aside0.mk (hb); have n1_ := Aside0.mk (ho); clear HB; clear HO113; have HB := n0_; have HO116 := n1_; clear n0_ n1_; clear ho hb hg hat))
   go_ret
   exact ⟨_, er_, kr_ HO116, bl0_ HB⟩
  ·rw [if_neg c4] at H
   exact absurd H (by simp)
 ·rw [if_neg c3] at H
  exact absurd H (by simp)
def basculeref03_counted.f (l0 : List Int) : Option (List Int) := (basculeref01_Both.f (([((l0.length : Int)) % 256] : List Int)) l0).bind fun t120 => (some t120)
set_option maxHeartbeats 8000000 in
set_option maxRecDepth 100000 in
theorem basculeref03_counted.calls (A0 : Option Addr) (c0 : Nat) (l0 : List Int) (r : List Int) (w : World) (hr0 : Kd.C (Kd.int .u8) w A0 l0.length l0) (hc0 : l0.length ≤ c0) (h : basculeref03_counted.f l0 = some r) :
 Calls Try.prog 57 #[.slice A0 l0.length c0] w fun e w' => ∃ v0_ : Value, e = .returned (v0_) ∧ Kd.R (Kd.int .u8) 5 w' w.heap.size (fun _ => True) v0_ r ∧ Below w.heap.size w w' := by
 have HR0 := Aside0.mk hr0
 have HC0 := Aside0.mk hc0
 clear hr0 hc0
 have HB := Aside0.mk (Below.refl w.heap.size w)
 have H : ((basculeref01_Both.f (([((l0.length : Int)) % 256] : List Int)) l0).bind fun t120 => (some t120)) = some r := h
 clear h
 obtain ⟨y117, hy117⟩ : ∃ y_ : List Int, y_ = (([((l0.length : Int)) % 256] : List Int)) := ⟨_, rfl⟩
 replace H : ((basculeref01_Both.f y117 l0).bind fun t120 => (some t120)) = some r := by first | (rw [hy117]; with_reducible exact H) | (have H2_ := (Option.bind_some _ _).symm.trans H; rw [hy117]; with_reducible exact H2_) | (have H2_ := (Option.bind_some _ _).symm.trans H; with_reducible exact H2_) | with_reducible exact H | (rw [hy117]; exact H) | exact H
 have Ny117 := Aside0.mk hy117
 clear hy117
 replace H := Option.bind_eq_some_iff.mp H
 obtain ⟨t120, A20, H⟩ := H
 replace H : (some t120) = some r := H
 have A2 := Aside0.mk A20
 clear A20
 obtain rfl := Option.some.inj H
 go_enter Try.func57, Try.ntmps57
 go_wp2_with (first | ((with_reducible refine gate_dst (N := 6) rfl ?_); refine Kd.R_lit (Kd.int .u8) _ 5 ?hg (N := 6) ?hd (xs := ([((l0.length : Int)) % 256] : List Int)) (inner := [.int .u8 (((l0.length : Int)) % 256)]) (ok := fun _ => True) (okp := fun _ => True) ?hr ?hp (fun _ hk => hk) trivial (Below.refl _ _) (Nat.le_refl _) (by simp) ?_; (case hd => rfl); (case hg => rfl); (case hr => first | (go_simp; done) | (go_simp; rfl)); (case hp => exact (Reps.one (show Kd.M (Kd.int .u8) _ _ _ (((l0.length : Int)) % 256) [.int .u8 (((l0.length : Int)) % 256)] from rfl) (Reps.none _ _))); intro v118 w3 ho4 hb hg_ hnew_; clear hg_ hnew_; (first | rw [← Ny117.out] at ho4 | (simp only [Int.reduceToNat] at ho4; rw [← Ny117.out] at ho4)); have n0_ := Aside0.mk (Kd.R_lower ho4 (below_size (bl0_ HB))); have n1_ := Aside0.mk (below_step (bl0_ HB) hb); clear HB; have HO119 := n0_; have HB := n1_; clear n0_ n1_; clear hb ho4; obtain ⟨Ao5, co5, eo5⟩ := Kd.R_slice HO119.out; subst eo5) | ((with_reducible refine gate_callee (f := 72) rfl ?_); refine goesL_ (some 8) rfl rfl Try.func72 (by kernel_rfl) rfl #[.slice Ao5 y117.length co5, .slice A0 l0.length c0] rfl ar_ ?_; (with_reducible refine (basculeref01_Both.calls _ _ y117 _ _ l0 t120 _ ?side1 ?side2 ?side3 ?side4 A2.out).mono ?_); (case side1 => exact sc_ (Kd.R_reads' HO119.out).2.2); (case side2 => exact (Kd.R_reads' HO119.out).2.1); (case side3 => exact sc_ (Kd.C_below HR0.out HB.out)); (case side4 => exact HC0.out); rintro e w6 ⟨v121, rfl, ho0, hb⟩; refine ⟨_, rfl, ?_⟩; have n0_ := Aside0.mk (Kd.R_elder' (kr_ HO119) (Kd.R_base ho0) hb); have n1_ := Aside0.mk (Kd.R_lower (Kd.R_new' ho0 (Kd.R_lt (kr_ HO119))) (below_size (bl0_ HB))); have n2_ := Aside0.mk (below_step (bl0_ HB) hb); clear HO119; clear HB; have HO119 := n0_; have HO122 := n1_; have HB := n2_; clear n0_ n1_ n2_; (try clear hb); (try clear hb2); (try clear hk); (try clear hi); (try clear ho0)))
 go_ret
 exact ⟨_, er_, by (with_reducible repeat (first | apply Kd.R_alloc | apply Kd.R_drewN | apply Kd.R_drew)); exact Kd.R_mono HO122.out (fun _ hk => trivial), bl0_ HB⟩
mutual
def basculeref01_Pack.l0 : Nat → List Int → List Int → Int → Option (List Int)
 | 0, _, _, _ => none
 | k + 1, x0, x3, x4 => if x4 < (x0.length : Int) then (basculeref01_Pack.l1 k x0 x3 x4 0 1 x4) else (some x3)
def basculeref01_Pack.l1 : Nat → List Int → List Int → Int → Int → Int → Int → Option (List Int)
 | 0, _, _, _, _, _, _ => none
 | k + 1, x0, x3, x4, x5, x6, x7 => if x7 < (wrap64 (x4 + 8)) then (if x7 < (x0.length : Int) then (if 0 ≤ x7 then (basculeref01_Pack.l1 k x0 x3 x4 (wrap64 (x5 + (wrap64 (x6 * (rd x0 x7))))) (wrap64 (2 * x6)) (wrap64 (x7 + 1))) else (none)) else (if x3.length < 140737488355328 then (basculeref01_Pack.l0 k x0 (x3 ++ [(x5) % 256]) (wrap64 (x4 + 8))) else (none))) else (if x3.length < 140737488355328 then (basculeref01_Pack.l0 k x0 (x3 ++ [(x5) % 256]) (wrap64 (x4 + 8))) else (none))
end
def basculeref01_Pack.f (k : Nat) (l0 : List Int) : Option (List Int) := basculeref01_Pack.l0 k l0 ([] : List Int) 0
theorem basculeref01_Pack.mono_l : ∀ k, (∀ y0 y1 y2, LeO (basculeref01_Pack.l0 k y0 y1 y2) (basculeref01_Pack.l0 (k + 1) y0 y1 y2)) ∧ (∀ y0 y1 y2 y3 y4 y5, LeO (basculeref01_Pack.l1 k y0 y1 y2 y3 y4 y5) (basculeref01_Pack.l1 (k + 1) y0 y1 y2 y3 y4 y5))
 | 0 => ⟨fun _ _ _ r h => by simp [basculeref01_Pack.l0] at h, fun _ _ _ _ _ _ r h => by simp [basculeref01_Pack.l1] at h⟩
 | k + 1 => by
  obtain ⟨ih0, ih1⟩ := basculeref01_Pack.mono_l k
  refine ⟨?_, ?_⟩
  ·intro y0 y1 y2
   unfold basculeref01_Pack.l0
   repeat' first
   | (with_reducible exact ih0 _ _ _)
   | (with_reducible exact ih1 _ _ _ _ _ _)
   | (with_reducible exact LeO.refl _)
   | (with_reducible exact LeO.none _)
   | (with_reducible refine LeO.ite ?_ ?_)
   | (with_reducible refine LeO.bind ?_ (fun _ => ?_))
   | exact ih0 _ _ _
   | exact ih1 _ _ _ _ _ _
   | exact LeO.none _
   | refine LeO.ite ?_ ?_
   | refine LeO.bind ?_ (fun _ => ?_)
  ·intro y0 y1 y2 y3 y4 y5
   unfold basculeref01_Pack.l1
   repeat' first
   | (with_reducible exact ih0 _ _ _)
   | (with_reducible exact ih1 _ _ _ _ _ _)
   | (with_reducible exact LeO.refl _)
   | (with_reducible exact LeO.none _)
   | (with_reducible refine LeO.ite ?_ ?_)
   | (with_reducible refine LeO.bind ?_ (fun _ => ?_))
   | exact ih0 _ _ _
   | exact ih1 _ _ _ _ _ _
   | exact LeO.none _
   | refine LeO.ite ?_ ?_
   | refine LeO.bind ?_ (fun _ => ?_)
theorem basculeref01_Pack.mono : ∀ a0 k, LeO (basculeref01_Pack.f k a0) (basculeref01_Pack.f (k + 1) a0) := by
 intro a0 k
 obtain ⟨ih0, ih1⟩ := basculeref01_Pack.mono_l k
 unfold basculeref01_Pack.f
 repeat' first
  | (with_reducible exact ih0 _ _ _)
  | (with_reducible exact ih1 _ _ _ _ _ _)
  | (with_reducible exact LeO.refl _)
  | (with_reducible exact LeO.none _)
  | (with_reducible refine LeO.ite ?_ ?_)
  | (with_reducible refine LeO.bind ?_ (fun _ => ?_))
  | exact ih0 _ _ _
  | exact ih1 _ _ _ _ _ _
  | exact LeO.none _
  | refine LeO.ite ?_ ?_
  | refine LeO.bind ?_ (fun _ => ?_)
set_option maxHeartbeats 8000000 in
set_option maxRecDepth 100000 in
theorem basculeref01_Pack.calls (k : Nat) (A0 : Option Addr) (c0 : Nat) (l0 : List Int) (r : List Int) (w : World) (hr0 : Kd.C (Kd.int .i64) w A0 l0.length l0) (hc0 : l0.length ≤ c0) (h : basculeref01_Pack.f k l0 = some r) :
 Calls Try.prog 58 #[.slice A0 l0.length c0] w fun e w' => ∃ v0_ : Value, e = .returned (v0_) ∧ Kd.R (Kd.int .u8) 5 w' w.heap.size (fun _ => True) v0_ r ∧ Below w.heap.size w w' := by
 have HR0 := Aside0.mk hr0
 have HC0 := Aside0.mk hc0
 clear hr0 hc0
 have HB := Aside0.mk (Below.refl w.heap.size w)
 have H : (basculeref01_Pack.l0 k l0 ([] : List Int) 0) = some r := h
 clear h
 have H' := Aside0.mk H
 clear H
 go_enter Try.func58, Try.ntmps58
 go_wp2
 go_loopg [3, 4] k (fun kq v3 v4 w' => ∃ (x3_1 : List Int) (x4_1 : Int), v4 = .int .i64 x4_1 ∧ Aside0 (basculeref01_Pack.l0 kq l0 x3_1 x4_1 = some r) ∧ Aside0 (kq ≤ k) ∧ Aside0 (Kd.R (Kd.int .u8) 5 w' w.heap.size (fun _ => True) v3 x3_1) ∧ Aside0 (Below w.heap.size w w'))
 case atStart => exact ⟨(([] : List Int)), (0), (by first | rfl | (simp; done) | (simp [*]; done)), H', ⟨Nat.le_refl _⟩, ⟨by first | exact Kd.R_nil _ _ _ _ _ | exact Kd.N_nil _ _ _ _ _ | exact Kd.V_nil _ _ _ _ _ | exact Kd.Q_nil _ _ _ _ _ | exact Kd.S_nil _ _ _ _ _⟩, ⟨bl0_ HB⟩⟩
 case round =>
  clear H'
  obtain ⟨x3_1, x4_1, rfl, HA, HK1, HO_3, HB⟩ := hrel
  cases gk with
  | zero => exact absurd HA.out (by simp [basculeref01_Pack.l0])
  | succ k1 =>
   have H := HA.out
   clear HA
   simp only [basculeref01_Pack.l0] at H
   by_cases c2 : x4_1 < (l0.length : Int)
   ·rw [if_pos c2] at H
    have c2b0 : decide (x4_1 < (l0.length : Int)) = true := decide_eq_true c2
    clear c2
    have H' := Aside0.mk H
    clear H
    go_wp2
    go_loopg [5, 6, 7] k1 (fun kq v5 v6 v7 w' => ∃ (x5_2 : Int) (x6_2 : Int) (x7_2 : Int), v5 = .int .i64 x5_2 ∧ v6 = .int .i64 x6_2 ∧ v7 = .int .i64 x7_2 ∧ Aside0 (basculeref01_Pack.l1 kq l0 x3_1 x4_1 x5_2 x6_2 x7_2 = some r) ∧ Aside0 (kq ≤ k1) ∧ Aside0 (Kd.R (Kd.int .u8) 5 w' w.heap.size (fun _ => True) u3 x3_1) ∧ Aside0 (Below w.heap.size w w'))
    case atStart => exact ⟨(0), (1), (x4_1), (by first | rfl | (simp; done) | (simp [*]; done)), (by first | rfl | (simp; done) | (simp [*]; done)), (by first | rfl | (simp; done) | (simp [*]; done)), H', ⟨Nat.le_refl _⟩, ⟨kr_ HO_3⟩, ⟨bl0_ HB⟩⟩
    case round =>
     clear H'
     try clear c2
     try clear c2b0
     try clear p2
     obtain ⟨x5_2, x6_2, x7_2, rfl, rfl, rfl, HA, HK2, HO_3, HB⟩ := hrel
     cases gk with
     | zero => exact absurd HA.out (by simp [basculeref01_Pack.l1])
     | succ k2 =>
      have H := HA.out
      clear HA
      simp only [basculeref01_Pack.l1] at H
      by_cases c3 : x7_2 < (wrap64 (x4_1 + 8))
      ·rw [if_pos c3] at H
       have c3b0 : decide (x7_2 < (wrap64 (x4_1 + 8))) = true := decide_eq_true c3
       clear c3
       by_cases c4 : x7_2 < (l0.length : Int)
       ·rw [if_pos c4] at H
        have c4b0 : decide (x7_2 < (l0.length : Int)) = true := decide_eq_true c4
        clear c4
        by_cases c5 : 0 ≤ x7_2
        ·rw [if_pos c5] at H
         have c5b0 : decide (0 ≤ x7_2) = true := decide_eq_true c5
         clear c5
         have H' := Aside0.mk H
         clear H
         have p123 : 0 ≤ (x7_2 : Int) := of_decide_eq_true (by first | (with_reducible assumption) | assumption)
         have q123 : x7_2 < (l0.length : Int) := of_decide_eq_true (by first | (with_reducible assumption) | assumption)
         obtain ⟨ad123, e123, hx123_0⟩ := Kd.at_int HR0.out x7_2 p123 q123
         cases e123
         replace hx123_0 := (HB.out.cell (World.block_lt_of_cell? w _ hx123_0)).trans hx123_0
         replace p123 := eq_true p123
         replace q123 := eq_true q123
         go_wp2
         go_roundg k2
         case measure => have := HK1.out; have := HK2.out; omega
         case rel => exact ⟨(wrap64 (x5_2 + (wrap64 (x6_2 * (rd l0 x7_2))))), (wrap64 (2 * x6_2)), (wrap64 (x7_2 + 1)), (by first | rfl | (simp; done) | (simp [*]; done)), (by first | rfl | (simp; done) | (simp [*]; done)), (by first | rfl | (simp; done) | (simp [*]; done)), H', ⟨by have := HK1.out; have := HK2.out; omega⟩, ⟨kr_ HO_3⟩, ⟨bl0_ HB⟩⟩
        ·rw [if_neg c5] at H
         exact absurd H (by simp)
       ·rw [if_neg c4] at H
        have c4b0 : decide (x7_2 < (l0.length : Int)) = false := decide_eq_false c4
        clear c4
        by_cases c6 : x3_1.length < 140737488355328
        ·rw [if_pos c6] at H
         have LMc6 := Aside0.mk c6
         clear c6
         obtain ⟨y124, hy124⟩ : ∃ y_ : List Int, y_ = (x3_1 ++ [(x5_2) % 256]) := ⟨_, rfl⟩
         replace H : (basculeref01_Pack.l0 k2 l0 y124 (wrap64 (x4_1 + 8))) = some r := by first | (rw [hy124]; with_reducible exact H) | (have H2_ := (Option.bind_some _ _).symm.trans H; rw [hy124]; with_reducible exact H2_) | (have H2_ := (Option.bind_some _ _).symm.trans H; with_reducible exact H2_) | with_reducible exact H | (rw [hy124]; exact H) | exact H
         have Ny124 := Aside0.mk hy124
         clear hy124
         have H' := Aside0.mk H
         clear H
         go_wp2_with (first | ((with_reducible refine gate_builtin (b := .append) (xs := #[.tmp 37, .tmp 40]) rfl ?_); (try (refine gate_guard (by rfl) ?_; dsimp only)); at_builtin; refine Kd.R_append (Kd.int .u8) (w0 := w) w.heap.size rfl (.tmp 37) (.tmp 40) 58 5 (.int .u8 0) 1 rfl Try.underlying58 info5 rfl (by decide) (by omega) u3 x3_1 ((x5_2) % 256) [.int .u8 ((x5_2) % 256)] (fun _ => True) (fun _ => False) rfl rfl ?aP (fun _ hk => hk.elim) ?aF ?aO ?aB ?aS ?aL ?_; (case aP => exact rfl); (case aB => exact (bl0_ HB)); (case aF => exact (fun _ _ => trivial)); (case aO => exact (kr_ HO_3)); (case aS => exact (below_size (bl0_ HB))); (case aL => have := LMc6.out; omega); intro v125 w7 ho hb hg hat; rw [← Ny124.out] at ho; have n0_ := Aside0.mk (hb); have n1_ := Aside0.mk (ho); clear HB; clear HO_3; have HB := n0_; have HO126 := n1_; clear n0_ n1_; clear ho hb hg hat))
         go_roundg k2
         case measure => have := HK1.out; have := HK2.out; omega
         case rel => exact ⟨(y124), (wrap64 (x4_1 + 8)), (by first | rfl | (simp; done) | (simp [*]; done)), H', ⟨by have := HK1.out; have := HK2.out; omega⟩, ⟨kr_ HO126⟩, ⟨bl0_ HB⟩⟩
        ·rw [if_neg c6] at H
         exact absurd H (by simp)
      ·rw [if_neg c3] at H
       have c3b0 : decide (x7_2 < (wrap64 (x4_1 + 8))) = false := decide_eq_false c3
       clear c3
       by_cases c8 : x3_1.length < 140737488355328
       ·rw [if_pos c8] at H
        have LMc8 := Aside0.mk c8
        clear c8
        obtain ⟨y127, hy127⟩ : ∃ y_ : List Int, y_ = (x3_1 ++ [(x5_2) % 256]) := ⟨_, rfl⟩
        replace H : (basculeref01_Pack.l0 k2 l0 y127 (wrap64 (x4_1 + 8))) = some r := by first | (rw [hy127]; with_reducible exact H) | (have H2_ := (Option.bind_some _ _).symm.trans H; rw [hy127]; with_reducible exact H2_) | (have H2_ := (Option.bind_some _ _).symm.trans H; with_reducible exact H2_) | with_reducible exact H | (rw [hy127]; exact H) | exact H
        have Ny127 := Aside0.mk hy127
        clear hy127
        have H' := Aside0.mk H
        clear H
        go_wp2_with (first | ((with_reducible refine gate_builtin (b := .append) (xs := #[.tmp 37, .tmp 40]) rfl ?_); (try (refine gate_guard (by rfl) ?_; dsimp only)); at_builtin; refine Kd.R_append (Kd.int .u8) (w0 := w) w.heap.size rfl (.tmp 37) (.tmp 40) 58 5 (.int .u8 0) 1 rfl Try.underlying58 info5 rfl (by decide) (by omega) u3 x3_1 ((x5_2) % 256) [.int .u8 ((x5_2) % 256)] (fun _ => True) (fun _ => False) rfl rfl ?aP (fun _ hk => hk.elim) ?aF ?aO ?aB ?aS ?aL ?_; (case aP => exact rfl); (case aB => exact (bl0_ HB)); (case aF => exact (fun _ _ => trivial)); (case aO => exact (kr_ HO_3)); (case aS => exact (below_size (bl0_ HB))); (case aL => have := LMc8.out; omega); intro v128 w9 ho hb hg hat; rw [← Ny127.out] at ho; have n0_ := Aside0.mk (hb); have n1_ := Aside0.mk (ho); clear HB; clear HO_3; have HB := n0_; have HO129 := n1_; clear n0_ n1_; clear ho hb hg hat))
        go_roundg k2
        case measure => have := HK1.out; have := HK2.out; omega
        case rel => exact ⟨(y127), (wrap64 (x4_1 + 8)), (by first | rfl | (simp; done) | (simp [*]; done)), H', ⟨by have := HK1.out; have := HK2.out; omega⟩, ⟨kr_ HO129⟩, ⟨bl0_ HB⟩⟩
       ·rw [if_neg c8] at H
        exact absurd H (by simp)
   ·rw [if_neg c2] at H
    have c2b0 : decide (x4_1 < (l0.length : Int)) = false := decide_eq_false c2
    clear c2
    obtain rfl := Option.some.inj H
    go_wp2
    go_ret
    exact ⟨_, er_, kr_ HO_3, bl0_ HB⟩
end Go.Proofs.Ytocicifgglkaeaa.PR
end

section
namespace Go.Proofs.Ytocicifgglkaeaa.PR
open Go.RowKit Go.Proofs.YtocicifgglkaeaaW.PrintWords Go.Proofs.YtocicifgglkaeaaW.PrintLast Go.Proofs.YtocicifgglkaeaaW.PrintMore
attribute [local go_sem] max2_int min2_int max_two min_two max_three min_three max_four min_four   
set_option linter.unusedVariables false
set_option linter.unusedSimpArgs false
open Go.Proofs.Ytocicifgglkaeaa.Ext Go.Proofs.Ytocicifgglkaeaa.PP Go.Proofs.Ytocicifgglkaeaa.ExtF Go.Proofs.Ytocicifgglkaeaa.PQ Go.Proofs.Ytocicifgglkaeaa.ExtM
def basculeref01_Ints.l0 : Nat → List Int → List Int → Int → Option (Bool)
 | 0, _, _, _ => none
 | k + 1, x0, x1, x5 => if x5 < (x0.length : Int) then (if 0 ≤ x5 then (if x5 < (x1.length : Int) then (if (rd x0 x5) = (rd x1 x5) then (basculeref01_Ints.l0 k x0 x1 (wrap64 (x5 + 1))) else (some false)) else (none)) else (none)) else (some true)
def basculeref01_Ints.f (k : Nat) (l0 : List Int) (l1 : List Int) : Option (Bool) := if (l0.length : Int) = (l1.length : Int) then (basculeref01_Ints.l0 k l0 l1 0) else (some false)
theorem basculeref01_Ints.mono_l : ∀ k, (∀ y0 y1 y2, LeO (basculeref01_Ints.l0 k y0 y1 y2) (basculeref01_Ints.l0 (k + 1) y0 y1 y2))
 | 0 => fun _ _ _ r h => by simp [basculeref01_Ints.l0] at h
 | k + 1 => by
  have ih0 := basculeref01_Ints.mono_l k
  ·intro y0 y1 y2
   unfold basculeref01_Ints.l0
   repeat' first
   | (with_reducible exact ih0 _ _ _)
   | (with_reducible exact LeO.refl _)
   | (with_reducible exact LeO.none _)
   | (with_reducible refine LeO.ite ?_ ?_)
   | (with_reducible refine LeO.bind ?_ (fun _ => ?_))
   | exact ih0 _ _ _
   | exact LeO.none _
   | refine LeO.ite ?_ ?_
   | refine LeO.bind ?_ (fun _ => ?_)
theorem basculeref01_Ints.mono : ∀ a0 a1 k, LeO (basculeref01_Ints.f k a0 a1) (basculeref01_Ints.f (k + 1) a0 a1) := by
 intro a0 a1 k
 have ih0 := basculeref01_Ints.mono_l k
 unfold basculeref01_Ints.f
 repeat' first
  | (with_reducible exact ih0 _ _ _)
  | (with_reducible exact LeO.refl _)
  | (with_reducible exact LeO.none _)
  | (with_reducible refine LeO.ite ?_ ?_)
  | (with_reducible refine LeO.bind ?_ (fun _ => ?_))
  | exact ih0 _ _ _
  | exact LeO.none _
  | refine LeO.ite ?_ ?_
  | refine LeO.bind ?_ (fun _ => ?_)
set_option maxHeartbeats 8000000 in
set_option maxRecDepth 100000 in
theorem basculeref01_Ints.calls (k : Nat) (A0 : Option Addr) (c0 : Nat) (l0 : List Int) (A1 : Option Addr) (c1 : Nat) (l1 : List Int) (r : Bool) (w : World) (hr0 : Kd.C (Kd.int .i64) w A0 l0.length l0) (hc0 : l0.length ≤ c0) (hr1 : Kd.C (Kd.int .i64) w A1 l1.length l1) (hc1 : l1.length ≤ c1) (h : basculeref01_Ints.f k l0 l1 = some r) :
 Calls Try.prog 42 #[.slice A0 l0.length c0, .slice A1 l1.length c1] w fun e w' => e = .returned (.bool r) ∧ Drawn0 w w' := by
 have HR0 := Aside0.mk hr0
 have HC0 := Aside0.mk hc0
 clear hr0 hc0
 have HR1 := Aside0.mk hr1
 have HC1 := Aside0.mk hc1
 clear hr1 hc1
 have H : (if (l0.length : Int) = (l1.length : Int) then (basculeref01_Ints.l0 k l0 l1 0) else (some false)) = some r := h
 clear h
 by_cases c3 : (l0.length : Int) = (l1.length : Int)
 ·rw [if_pos c3] at H
  have c3b0 : ((l0.length : Int) == (l1.length : Int)) = true := beq_iff_eq.mpr c3
  have c3b1 : ((l0.length : Int) != (l1.length : Int)) = false := bne_eq_false_iff_eq.mpr c3
  have c3b2 : (l0.length == l1.length) = true := by first | simpa using c3 | (simp at c3 ⊢; omega)
  clear c3
  have H' := Aside0.mk H
  clear H
  go_enter Try.func42, Try.ntmps42
  go_wp2
  repeat (go_quiet (fail); try go_wp2)
  go_loopg [5] k (fun kq v5 w' => ∃ (x5_1 : Int), v5 = .int .i64 x5_1 ∧ Aside0 (basculeref01_Ints.l0 kq l0 l1 x5_1 = some r) ∧ Aside0 (kq ≤ k) ∧ Drawn0 w w')
  case atStart => exact ⟨(0), (by first | rfl | (simp; done) | (simp [*]; done)), H', ⟨Nat.le_refl _⟩, by repeat (first | exact Drawn0.refl _ | apply Drawn0.step)⟩
  case round =>
   clear H'
   try clear c1
   try clear p2
   try clear c3
   try clear c3b0
   try clear c3b1
   try clear c3b2
   obtain ⟨x5_1, rfl, HA, HK1, ⟨m1, rfl⟩⟩ := hrel
   cases gk with
   | zero => exact absurd HA.out (by simp [basculeref01_Ints.l0])
   | succ k1 =>
    have H := HA.out
    clear HA
    simp only [basculeref01_Ints.l0] at H
    by_cases c4 : x5_1 < (l0.length : Int)
    ·rw [if_pos c4] at H
     have c4b0 : decide (x5_1 < (l0.length : Int)) = true := decide_eq_true c4
     clear c4
     by_cases c5 : 0 ≤ x5_1
     ·rw [if_pos c5] at H
      have c5b0 : decide (0 ≤ x5_1) = true := decide_eq_true c5
      clear c5
      by_cases c6 : x5_1 < (l1.length : Int)
      ·rw [if_pos c6] at H
       have c6b0 : decide (x5_1 < (l1.length : Int)) = true := decide_eq_true c6
       clear c6
       by_cases c7 : (rd l0 x5_1) = (rd l1 x5_1)
       ·rw [if_pos c7] at H
        have c7b0 : ((rd l0 x5_1) == (rd l1 x5_1)) = true := beq_iff_eq.mpr c7
        have c7b1 : ((rd l0 x5_1) != (rd l1 x5_1)) = false := bne_eq_false_iff_eq.mpr c7
        clear c7
        have H' := Aside0.mk H
        clear H
        have p385 : 0 ≤ (x5_1 : Int) := of_decide_eq_true (by first | (with_reducible assumption) | assumption)
        have q385 : x5_1 < (l0.length : Int) := of_decide_eq_true (by first | (with_reducible assumption) | assumption)
        obtain ⟨ad385, e385, hx385_0⟩ := Kd.at_int HR0.out x5_1 p385 q385
        cases e385
        replace p385 := eq_true p385
        replace q385 := eq_true q385
        have p386 : 0 ≤ (x5_1 : Int) := of_decide_eq_true (by first | (with_reducible assumption) | assumption)
        have q386 : x5_1 < (l1.length : Int) := of_decide_eq_true (by first | (with_reducible assumption) | assumption)
        obtain ⟨ad386, e386, hx386_0⟩ := Kd.at_int HR1.out x5_1 p386 q386
        cases e386
        replace p386 := eq_true p386
        replace q386 := eq_true q386
        go_wp2
        repeat (go_quiet (fail); try go_wp2)
        go_roundg k1
        case measure => have := HK1.out; omega
        case rel => exact ⟨(wrap64 (x5_1 + 1)), (by first | rfl | (simp; done) | (simp [*]; done)), H', ⟨by have := HK1.out; omega⟩, by repeat (first | exact Drawn0.refl _ | apply Drawn0.step)⟩
       ·rw [if_neg c7] at H
        have c7b0 : ((rd l0 x5_1) == (rd l1 x5_1)) = false := beq_eq_false_iff_ne.mpr c7
        have c7b1 : ((rd l0 x5_1) != (rd l1 x5_1)) = true := bne_iff_ne.mpr c7
        obtain rfl := Option.some.inj H
        have p385 : 0 ≤ (x5_1 : Int) := of_decide_eq_true (by first | (with_reducible assumption) | assumption)
        have q385 : x5_1 < (l0.length : Int) := of_decide_eq_true (by first | (with_reducible assumption) | assumption)
        obtain ⟨ad385, e385, hx385_0⟩ := Kd.at_int HR0.out x5_1 p385 q385
        cases e385
        replace p385 := eq_true p385
        replace q385 := eq_true q385
        have p386 : 0 ≤ (x5_1 : Int) := of_decide_eq_true (by first | (with_reducible assumption) | assumption)
        have q386 : x5_1 < (l1.length : Int) := of_decide_eq_true (by first | (with_reducible assumption) | assumption)
        obtain ⟨ad386, e386, hx386_0⟩ := Kd.at_int HR1.out x5_1 p386 q386
        cases e386
        replace p386 := eq_true p386
        replace q386 := eq_true q386
        go_wp2
        repeat (go_quiet (fail); try go_wp2)
        go_ret
        exact ⟨by first | rfl | (simp; done) | (simp [*]; done), by repeat (first | exact Drawn0.refl _ | apply Drawn0.step)⟩
      ·rw [if_neg c6] at H
       exact absurd H (by simp)
     ·rw [if_neg c5] at H
      exact absurd H (by simp)
    ·rw [if_neg c4] at H
     have c4b0 : decide (x5_1 < (l0.length : Int)) = false := decide_eq_false c4
     clear c4
     obtain rfl := Option.some.inj H
     go_wp2
     repeat (go_quiet (fail); try go_wp2)
     go_ret
     exact ⟨by first | rfl | (simp; done) | (simp [*]; done), by repeat (first | exact Drawn0.refl _ | apply Drawn0.step)⟩
 ·rw [if_neg c3] at H
  have c3b0 : ((l0.length : Int) == (l1.length : Int)) = false := beq_eq_false_iff_ne.mpr c3
  have c3b1 : ((l0.length : Int) != (l1.length : Int)) = true := bne_iff_ne.mpr c3
  have c3b2 : (l0.length == l1.length) = false := by first | simpa using c3 | (simp at c3 ⊢; omega)
  obtain rfl := Option.some.inj H
  go_enter Try.func42, Try.ntmps42
  go_wp2
  repeat (go_quiet (fail); try go_wp2)
  go_ret
  exact ⟨by first | rfl | (simp; done) | (simp [*]; done), by repeat (first | exact Drawn0.refl _ | apply Drawn0.step)⟩
def basculelaw03_small.f (a0_0 : Int) (a0_1 : Int) (a0_2 : Int) (l0_3 : List Int) (a0_4 : Int) (a0_5 : Int) (a0_6 : Int) : Option (Bool) := some (decide ((l0_3.length : Int) ≤ 2100))
set_option maxHeartbeats 8000000 in
set_option maxRecDepth 100000 in
theorem basculelaw03_small.calls (a0_0 : Int) (a0_1 : Int) (a0_2 : Int) (A0_3 : Option Addr) (c0_3 : Nat) (l0_3 : List Int) (a0_4 : Int) (a0_5 : Int) (a0_6 : Int) (r : Bool) (w : World) (hr0_3 : Kd.C (Kd.int .i64) w A0_3 l0_3.length l0_3) (hc0_3 : l0_3.length ≤ c0_3) (h : basculelaw03_small.f a0_0 a0_1 a0_2 l0_3 a0_4 a0_5 a0_6 = some r) :
 Calls Try.prog 28 #[.agg #[.int .i64 a0_0, .int .i64 a0_1, .int .i64 a0_2, .slice A0_3 l0_3.length c0_3, .int .i64 a0_4, .int .i64 a0_5, .int .i64 a0_6]] w fun e w' => e = .returned (.bool r) ∧ Below w.heap.size w w' := by
 have hu24 := Try.underlying24
 have HR0_3 := Aside0.mk hr0_3
 have HC0_3 := Aside0.mk hc0_3
 clear hr0_3 hc0_3
 have HB := Aside0.mk (Below.refl w.heap.size w)
 have H : (some (decide ((l0_3.length : Int) ≤ 2100))) = some r := h
 clear h
 obtain rfl := Option.some.inj H
 go_enter Try.func28, Try.ntmps28
 go_wp2_with (first | ((with_reducible refine gate_dst (N := 1) rfl ?_); refine bx_ (N := 1) (cs := #[.int .i64 a0_0, .int .i64 a0_1, .int .i64 a0_2, .slice A0_3 l0_3.length c0_3, .int .i64 a0_4, .int .i64 a0_5, .int .i64 a0_6]) (t := 24) ?_; intro gb393 hg w2 hbox hb; have n0_ := Aside0.mk (below_step (bl0_ HB) hb); have n1_ := Aside0.mk (hbox); have n2_ := Aside0.mk ((by rw [hg]; exact (below_size (bl0_ HB)) : w.heap.size ≤ gb393)); have n3_ := Aside0.mk ((by rw [hg]; exact (below_size (bl0_ HB)) : w.heap.size ≤ gb393)); clear HB; have HB := n0_; have BK393 := n1_; have GW393 := n2_; have GE393 := n3_; clear n0_ n1_ n2_ n3_; clear hb hbox hg; refine cz7_ BK393.out ?_; intro hcz3_0 hcz3_1 hcz3_2 hcz3_3 hcz3_4 hcz3_5 hcz3_6 hfz3_0 hfz3_1 hfz3_2 hfz3_3 hfz3_4 hfz3_5 hfz3_6))
 go_ret
 exact ⟨er_, bl1_ HB GE393⟩
end Go.Proofs.Ytocicifgglkaeaa.PR
end

/- The words, contracts and walks that this claim leans on, put together by a program of this session (part 3). -/
import Derived.Test.YtocicifgglkaeaaZR2
section
namespace Go.Proofs.Ytocicifgglkaeaa.PR
open Go.RowKit Go.Proofs.YtocicifgglkaeaaW.PrintWords Go.Proofs.YtocicifgglkaeaaW.PrintLast Go.Proofs.YtocicifgglkaeaaW.PrintMore
attribute [local go_sem] max2_int min2_int max_two min_two max_three min_three max_four min_four   
set_option linter.unusedVariables false
set_option linter.unusedSimpArgs false
open Go.Proofs.Ytocicifgglkaeaa.Ext Go.Proofs.Ytocicifgglkaeaa.PP Go.Proofs.Ytocicifgglkaeaa.ExtF Go.Proofs.Ytocicifgglkaeaa.PQ Go.Proofs.Ytocicifgglkaeaa.ExtM
def basculeref01_Number.f (l0 : List Int) : Option (Int) := if 0 < (l0.length : Int) then (if 1 < (l0.length : Int) then (some (wrap64 ((wrap64 (256 * (wrap64 (rd l0 0)))) + (wrap64 (rd l0 1))))) else (none)) else (none)
set_option maxHeartbeats 8000000 in
set_option maxRecDepth 100000 in
theorem basculeref01_Number.calls (A0 : Option Addr) (c0 : Nat) (l0 : List Int) (r : Int) (w : World) (hr0 : Kd.C (Kd.int .u8) w A0 l0.length l0) (hc0 : l0.length ≤ c0) (h : basculeref01_Number.f l0 = some r) :
 Calls Try.prog 63 #[.slice A0 l0.length c0] w fun e w' => e = .returned (.int .i64 r) ∧ Drawn0 w w' := by
 have HR0 := Aside0.mk hr0
 have HC0 := Aside0.mk hc0
 clear hr0 hc0
 have H : (if 0 < (l0.length : Int) then (if 1 < (l0.length : Int) then (some (wrap64 ((wrap64 (256 * (wrap64 (rd l0 0)))) + (wrap64 (rd l0 1))))) else (none)) else (none)) = some r := h
 clear h
 by_cases c2 : 0 < (l0.length : Int)
 ·rw [if_pos c2] at H
  have c2b0 : decide (0 < (l0.length : Int)) = true := decide_eq_true c2
  have c2b1 : decide (0 < l0.length) = true := decide_eq_true (by omega)
  clear c2
  by_cases c3 : 1 < (l0.length : Int)
  ·rw [if_pos c3] at H
   have c3b0 : decide (1 < (l0.length : Int)) = true := decide_eq_true c3
   have c3b1 : decide (1 < l0.length) = true := decide_eq_true (by omega)
   clear c3
   obtain rfl := Option.some.inj H
   have p226 : 0 ≤ (0 : Int) := (by omega)
   have q226 : 0 < (l0.length : Int) := of_decide_eq_true (by first | (with_reducible assumption) | assumption)
   obtain ⟨ad226, e226, hx226_0⟩ := Kd.at_int HR0.out 0 p226 q226
   cases e226
   have qi226 : (0 < l0.length) = True := eq_true (by omega)
   (try rw [show ((0 : Int)).toNat = 0 from rfl] at hx226_0)
   (try rw [Addr.add_zero'] at hx226_0)
   replace p226 := eq_true p226
   replace q226 := eq_true q226
   have p227 : 0 ≤ (1 : Int) := (by omega)
   have q227 : 1 < (l0.length : Int) := of_decide_eq_true (by first | (with_reducible assumption) | assumption)
   obtain ⟨ad227, e227, hx227_0⟩ := Kd.at_int HR0.out 1 p227 q227
   obtain rfl : ad226 = ad227 := (by injection e227)
   (try simp only [show (1 : Int).toNat = 1 from rfl, Nat.reduceMul, Nat.reduceEqDiff, Go.Addr.add, ↓reduceIte] at hx227_0)
   have qi227 : (1 < l0.length) = True := eq_true (by omega)
   (try rw [show ((1 : Int)).toNat = 1 from rfl] at hx227_0)
   replace p227 := eq_true p227
   replace q227 := eq_true q227
   go_enter Try.func63, Try.ntmps63
   go_wp2
   repeat (go_quiet (fail); try go_wp2)
   go_ret
   exact ⟨by first | rfl | (simp; done) | (simp [*]; done), by repeat (first | exact Drawn0.refl _ | apply Drawn0.step)⟩
  ·rw [if_neg c3] at H
   exact absurd H (by simp)
 ·rw [if_neg c2] at H
  exact absurd H (by simp)
mutual
def basculeref01_Unpack.l0 : Nat → List Int → Int → List Int → Int → Option (List Int)
 | 0, _, _, _, _ => none
 | k + 1, x0, x1, x5, x6 => if x6 < x1 then (if 0 ≤ (wrap64 (Int.tdiv x6 8)) then (if (wrap64 (Int.tdiv x6 8)) < (x0.length : Int) then (basculeref01_Unpack.l1 k x0 x1 x5 x6 (wrap64 (rd x0 (wrap64 (Int.tdiv x6 8)))) 0) else (none)) else (none)) else (some x5)
def basculeref01_Unpack.l1 : Nat → List Int → Int → List Int → Int → Int → Int → Option (List Int)
 | 0, _, _, _, _, _, _ => none
 | k + 1, x0, x1, x5, x6, x7, x8 => if x8 < (Int.tmod x6 8) then (basculeref01_Unpack.l1 k x0 x1 x5 x6 (wrap64 (Int.tdiv x7 2)) (wrap64 (x8 + 1))) else (if x5.length < 17592186044416 then (basculeref01_Unpack.l0 k x0 x1 (x5 ++ [Int.tmod x7 2]) (wrap64 (x6 + 1))) else (none))
end
def basculeref01_Unpack.f (k : Nat) (l0 : List Int) (a1 : Int) : Option (List Int) := basculeref01_Unpack.l0 k l0 a1 ([] : List Int) 0
theorem basculeref01_Unpack.mono_l : ∀ k, (∀ y0 y1 y2 y3, LeO (basculeref01_Unpack.l0 k y0 y1 y2 y3) (basculeref01_Unpack.l0 (k + 1) y0 y1 y2 y3)) ∧ (∀ y0 y1 y2 y3 y4 y5, LeO (basculeref01_Unpack.l1 k y0 y1 y2 y3 y4 y5) (basculeref01_Unpack.l1 (k + 1) y0 y1 y2 y3 y4 y5))
 | 0 => ⟨fun _ _ _ _ r h => by simp [basculeref01_Unpack.l0] at h, fun _ _ _ _ _ _ r h => by simp [basculeref01_Unpack.l1] at h⟩
 | k + 1 => by
  obtain ⟨ih0, ih1⟩ := basculeref01_Unpack.mono_l k
  refine ⟨?_, ?_⟩
  ·intro y0 y1 y2 y3
   unfold basculeref01_Unpack.l0
   repeat' first
   | (with_reducible exact ih0 _ _ _ _)
   | (with_reducible exact ih1 _ _ _ _ _ _)
   | (with_reducible exact LeO.refl _)
   | (with_reducible exact LeO.none _)
   | (with_reducible refine LeO.ite ?_ ?_)
   | (with_reducible refine LeO.bind ?_ (fun _ => ?_))
   | exact ih0 _ _ _ _
   | exact ih1 _ _ _ _ _ _
   | exact LeO.none _
   | refine LeO.ite ?_ ?_
   | refine LeO.bind ?_ (fun _ => ?_)
  ·intro y0 y1 y2 y3 y4 y5
   unfold basculeref01_Unpack.l1
   repeat' first
   | (with_reducible exact ih0 _ _ _ _)
   | (with_reducible exact ih1 _ _ _ _ _ _)
   | (with_reducible exact LeO.refl _)
   | (with_reducible exact LeO.none _)
   | (with_reducible refine LeO.ite ?_ ?_)
   | (with_reducible refine LeO.bind ?_ (fun _ => ?_))
   | exact ih0 _ _ _ _
   | exact ih1 _ _ _ _ _ _
   | exact LeO.none _
   | refine LeO.ite ?_ ?_
   | refine LeO.bind ?_ (fun _ => ?_)
theorem basculeref01_Unpack.mono : ∀ a0 a1 k, LeO (basculeref01_Unpack.f k a0 a1) (basculeref01_Unpack.f (k + 1) a0 a1) := by
 intro a0 a1 k
 obtain ⟨ih0, ih1⟩ := basculeref01_Unpack.mono_l k
 unfold basculeref01_Unpack.f
 repeat' first
  | (with_reducible exact ih0 _ _ _ _)
  | (with_reducible exact ih1 _ _ _ _ _ _)
  | (with_reducible exact LeO.refl _)
  | (with_reducible exact LeO.none _)
  | (with_reducible refine LeO.ite ?_ ?_)
  | (with_reducible refine LeO.bind ?_ (fun _ => ?_))
  | exact ih0 _ _ _ _
  | exact ih1 _ _ _ _ _ _
  | exact LeO.none _
  | refine LeO.ite ?_ ?_
  | refine LeO.bind ?_ (fun _ => ?_)
set_option maxHeartbeats 8000000 in
set_option maxRecDepth 100000 in
theorem basculeref01_Unpack.calls (k : Nat) (A0 : Option Addr) (c0 : Nat) (l0 : List Int) (a1 : Int) (r : List Int) (w : World) (hr0 : Kd.C (Kd.int .u8) w A0 l0.length l0) (hc0 : l0.length ≤ c0) (h : basculeref01_Unpack.f k l0 a1 = some r) :
 Calls Try.prog 64 #[.slice A0 l0.length c0, .int .i64 a1] w fun e w' => ∃ v0_ : Value, e = .returned (v0_) ∧ Kd.R (Kd.int .i64) 3 w' w.heap.size (fun _ => True) v0_ r ∧ Below w.heap.size w w' := by
 have HR0 := Aside0.mk hr0
 have HC0 := Aside0.mk hc0
 clear hr0 hc0
 have HB := Aside0.mk (Below.refl w.heap.size w)
 have H : (basculeref01_Unpack.l0 k l0 a1 ([] : List Int) 0) = some r := h
 clear h
 have H' := Aside0.mk H
 clear H
 go_enter Try.func64, Try.ntmps64
 go_wp2
 go_loopg [5, 6] k (fun kq v5 v6 w' => ∃ (x5_1 : List Int) (x6_1 : Int), v6 = .int .i64 x6_1 ∧ Aside0 (basculeref01_Unpack.l0 kq l0 a1 x5_1 x6_1 = some r) ∧ Aside0 (kq ≤ k) ∧ Aside0 (Kd.R (Kd.int .i64) 3 w' w.heap.size (fun _ => True) v5 x5_1) ∧ Aside0 (Below w.heap.size w w'))
 case atStart => exact ⟨(([] : List Int)), (0), (by first | rfl | (simp; done) | (simp [*]; done)), H', ⟨Nat.le_refl _⟩, ⟨by first | exact Kd.R_nil _ _ _ _ _ | exact Kd.N_nil _ _ _ _ _ | exact Kd.V_nil _ _ _ _ _ | exact Kd.Q_nil _ _ _ _ _ | exact Kd.S_nil _ _ _ _ _⟩, ⟨bl0_ HB⟩⟩
 case round =>
  clear H'
  try clear p2
  obtain ⟨x5_1, x6_1, rfl, HA, HK1, HO_5, HB⟩ := hrel
  cases gk with
  | zero => exact absurd HA.out (by simp [basculeref01_Unpack.l0])
  | succ k1 =>
   have H := HA.out
   clear HA
   simp only [basculeref01_Unpack.l0] at H
   by_cases c3 : x6_1 < a1
   ·rw [if_pos c3] at H
    have c3b0 : decide (x6_1 < a1) = true := decide_eq_true c3
    clear c3
    obtain ⟨ji4, hji4⟩ : ∃ j_ : Int, (wrap64 (Int.tdiv x6_1 8)) = j_ := ⟨_, rfl⟩
    replace H : (if 0 ≤ (ji4) then (if (ji4) < (l0.length : Int) then (basculeref01_Unpack.l1 k1 l0 a1 x5_1 x6_1 (wrap64 (rd l0 (ji4))) 0) else (none)) else (none)) = some r := by first | (rw [hji4] at H; exact H) | (simp only [hji4] at H ⊢; exact H)
    have hji4w : (IntKind.i64.wrap (Int.tdiv x6_1 8)) = ji4 := (i64_w _).trans hji4
    by_cases c5 : 0 ≤ (ji4)
    ·rw [if_pos c5] at H
     have c5b0 : decide (0 ≤ (ji4)) = true := decide_eq_true c5
     clear c5
     by_cases c6 : (ji4) < (l0.length : Int)
     ·rw [if_pos c6] at H
      have c6b0 : decide ((ji4) < (l0.length : Int)) = true := decide_eq_true c6
      clear c6
      have H' := Aside0.mk H
      clear H
      have p228 : 0 ≤ ((ji4) : Int) := of_decide_eq_true (by first | (with_reducible assumption) | assumption)
      have q228 : (ji4) < (l0.length : Int) := of_decide_eq_true (by first | (with_reducible assumption) | assumption)
      obtain ⟨ad228, e228, hx228_0⟩ := Kd.at_int HR0.out (ji4) p228 q228
      cases e228
      replace hx228_0 := (HB.out.cell (World.block_lt_of_cell? w _ hx228_0)).trans hx228_0
      replace p228 := eq_true p228
      replace q228 := eq_true q228
      go_wp2
      go_loopg [7, 8] k1 (fun kq v7 v8 w' => ∃ (x7_2 : Int) (x8_2 : Int), v7 = .int .i64 x7_2 ∧ v8 = .int .i64 x8_2 ∧ Aside0 (basculeref01_Unpack.l1 kq l0 a1 x5_1 x6_1 x7_2 x8_2 = some r) ∧ Aside0 (kq ≤ k1) ∧ Aside0 (Kd.R (Kd.int .i64) 3 w' w.heap.size (fun _ => True) u5 x5_1) ∧ Aside0 (Below w.heap.size w w'))
      case atStart => exact ⟨(wrap64 (rd l0 (ji4))), (0), (by first | rfl | (simp; done) | (simp only [← hji4] <;> (first | rfl | simp)) | (simp [*]; done)), (by first | rfl | (simp; done) | (simp [*]; done)), H', ⟨Nat.le_refl _⟩, ⟨kr_ HO_5⟩, ⟨bl0_ HB⟩⟩
      case round =>
       clear H'
       try clear p2
       try clear q2
       try clear hx2
       try clear c3
       try clear c3b0
       try clear c5
       try clear c5b0
       try clear c6
       try clear c6b0
       try clear p6
       try clear hx228_0
       try clear p2
       try clear p228
       try clear q228
       obtain ⟨x7_2, x8_2, rfl, rfl, HA, HK2, HO_5, HB⟩ := hrel
       cases gk with
       | zero => exact absurd HA.out (by simp [basculeref01_Unpack.l1])
       | succ k2 =>
        have H := HA.out
        clear HA
        simp only [basculeref01_Unpack.l1] at H
        by_cases c7 : x8_2 < (Int.tmod x6_1 8)
        ·rw [if_pos c7] at H
         have c7b0 : decide (x8_2 < (Int.tmod x6_1 8)) = true := decide_eq_true c7
         clear c7
         have H' := Aside0.mk H
         clear H
         go_wp2
         go_roundg k2
         case measure => have := HK1.out; have := HK2.out; omega
         case rel => exact ⟨(wrap64 (Int.tdiv x7_2 2)), (wrap64 (x8_2 + 1)), (by first | rfl | (simp; done) | (simp [*]; done)), (by first | rfl | (simp; done) | (simp [*]; done)), H', ⟨by have := HK1.out; have := HK2.out; omega⟩, ⟨kr_ HO_5⟩, ⟨bl0_ HB⟩⟩
        ·rw [if_neg c7] at H
         have c7b0 : decide (x8_2 < (Int.tmod x6_1 8)) = false := decide_eq_false c7
         clear c7
         by_cases c8 : x5_1.length < 17592186044416
         ·rw [if_pos c8] at H
          have LMc8 := Aside0.mk c8
          clear c8
          obtain ⟨y229, hy229⟩ : ∃ y_ : List Int, y_ = (x5_1 ++ [Int.tmod x7_2 2]) := ⟨_, rfl⟩
          replace H : (basculeref01_Unpack.l0 k2 l0 a1 y229 (wrap64 (x6_1 + 1))) = some r := by first | (rw [hy229]; with_reducible exact H) | (have H2_ := (Option.bind_some _ _).symm.trans H; rw [hy229]; with_reducible exact H2_) | (have H2_ := (Option.bind_some _ _).symm.trans H; with_reducible exact H2_) | with_reducible exact H | (rw [hy229]; exact H) | exact H
          have Ny229 := Aside0.mk hy229
          clear hy229
          have H' := Aside0.mk H
          clear H
          go_wp2_with (first | ((with_reducible refine gate_builtin (b := .append) (xs := #[.tmp 28, .tmp 31]) rfl ?_); at_builtin; refine Kd.R_append (Kd.int .i64) (w0 := w) w.heap.size rfl (.tmp 28) (.tmp 31) 22 3 (.int .i64 0) 8 rfl Try.underlying22 info3 rfl (by decide) (by omega) u5 x5_1 (Int.tmod x7_2 2) [.int .i64 (Int.tmod x7_2 2)] (fun _ => True) (fun _ => False) rfl rfl ?aP (fun _ hk => hk.elim) ?aF ?aO ?aB ?aS ?aL ?_; (case aP => exact rfl); (case aB => exact (bl0_ HB)); (case aF => exact (fun _ _ => trivial)); (case aO => exact (kr_ HO_5)); (case aS => exact (below_size (bl0_ HB))); (case aL => have := LMc8.out; omega); intro v230 w9 ho hb hg hat; rw [← Ny229.out] at ho; have n0_ := Aside0.mk (hb); have n1_ := Aside0.mk (ho); clear HB; clear HO_5; have HB := n0_; have HO231 := n1_; clear n0_ n1_; clear ho hb hg hat))
          go_roundg k2
          case measure => have := HK1.out; have := HK2.out; omega
          case rel => exact ⟨(y229), (wrap64 (x6_1 + 1)), (by first | rfl | (simp; done) | (simp [*]; done)), H', ⟨by have := HK1.out; have := HK2.out; omega⟩, ⟨kr_ HO231⟩, ⟨bl0_ HB⟩⟩
         ·rw [if_neg c8] at H
          exact absurd H (by simp)
     ·rw [if_neg c6] at H
      exact absurd H (by simp)
    ·rw [if_neg c5] at H
     exact absurd H (by simp)
   ·rw [if_neg c3] at H
    have c3b0 : decide (x6_1 < a1) = false := decide_eq_false c3
    clear c3
    obtain rfl := Option.some.inj H
    go_wp2
    go_ret
    exact ⟨_, er_, kr_ HO_5, bl0_ HB⟩
def basculeref03_read.l0 : Nat → List Int → List Int → Int → Option (List Int)
 | 0, _, _, _ => none
 | k + 1, x0, x3, x4 => if (wrap64 (x4 + 1)) < (x0.length : Int) then (if 0 ≤ x4 then (if x4 ≤ (x0.length : Int) then ((basculeref01_Number.f (x0.drop (x4 : Int).toNat)).bind fun t233 => (if x3.length < 17592186044416 then (basculeref03_read.l0 k x0 (x3 ++ [t233]) (wrap64 (x4 + 2))) else (none))) else (none)) else (none)) else (some x3)
def basculeref03_read.f (k : Nat) (l0 : List Int) : Option (List Int) := basculeref03_read.l0 k l0 ([] : List Int) 0
theorem basculeref03_read.mono_l : ∀ k, (∀ y0 y1 y2, LeO (basculeref03_read.l0 k y0 y1 y2) (basculeref03_read.l0 (k + 1) y0 y1 y2))
 | 0 => fun _ _ _ r h => by simp [basculeref03_read.l0] at h
 | k + 1 => by
  have ih0 := basculeref03_read.mono_l k
  ·intro y0 y1 y2
   unfold basculeref03_read.l0
   repeat' first
   | (with_reducible exact ih0 _ _ _)
   | (with_reducible exact LeO.refl _)
   | (with_reducible exact LeO.none _)
   | (with_reducible refine LeO.ite ?_ ?_)
   | (with_reducible refine LeO.bind ?_ (fun _ => ?_))
   | exact ih0 _ _ _
   | exact LeO.none _
   | refine LeO.ite ?_ ?_
   | refine LeO.bind ?_ (fun _ => ?_)
theorem basculeref03_read.mono : ∀ a0 k, LeO (basculeref03_read.f k a0) (basculeref03_read.f (k + 1) a0) := by
 intro a0 k
 have ih0 := basculeref03_read.mono_l k
 unfold basculeref03_read.f
 repeat' first
  | (with_reducible exact ih0 _ _ _)
  | (with_reducible exact LeO.refl _)
  | (with_reducible exact LeO.none _)
  | (with_reducible refine LeO.ite ?_ ?_)
  | (with_reducible refine LeO.bind ?_ (fun _ => ?_))
  | exact ih0 _ _ _
  | exact LeO.none _
  | refine LeO.ite ?_ ?_
  | refine LeO.bind ?_ (fun _ => ?_)
set_option maxHeartbeats 8000000 in
set_option maxRecDepth 100000 in
theorem basculeref03_read.calls (k : Nat) (A0 : Option Addr) (c0 : Nat) (l0 : List Int) (r : List Int) (w : World) (hr0 : Kd.C (Kd.int .u8) w A0 l0.length l0) (hc0 : l0.length ≤ c0) (h : basculeref03_read.f k l0 = some r) :
 Calls Try.prog 65 #[.slice A0 l0.length c0] w fun e w' => ∃ v0_ : Value, e = .returned (v0_) ∧ Kd.R (Kd.int .i64) 3 w' w.heap.size (fun _ => True) v0_ r ∧ Below w.heap.size w w' := by
 have HR0 := Aside0.mk hr0
 have HC0 := Aside0.mk hc0
 clear hr0 hc0
 have HB := Aside0.mk (Below.refl w.heap.size w)
 have H : (basculeref03_read.l0 k l0 ([] : List Int) 0) = some r := h
 clear h
 have H' := Aside0.mk H
 clear H
 go_enter Try.func65, Try.ntmps65
 go_wp2
 go_loopg [3, 4] k (fun kq v3 v4 w' => ∃ (x3_1 : List Int) (x4_1 : Int), v4 = .int .i64 x4_1 ∧ Aside0 (basculeref03_read.l0 kq l0 x3_1 x4_1 = some r) ∧ Aside0 (kq ≤ k) ∧ Aside0 (Kd.R (Kd.int .i64) 3 w' w.heap.size (fun _ => True) v3 x3_1) ∧ Aside0 (Below w.heap.size w w'))
 case atStart => exact ⟨(([] : List Int)), (0), (by first | rfl | (simp; done) | (simp [*]; done)), H', ⟨Nat.le_refl _⟩, ⟨by first | exact Kd.R_nil _ _ _ _ _ | exact Kd.N_nil _ _ _ _ _ | exact Kd.V_nil _ _ _ _ _ | exact Kd.Q_nil _ _ _ _ _ | exact Kd.S_nil _ _ _ _ _⟩, ⟨bl0_ HB⟩⟩
 case round =>
  clear H'
  obtain ⟨x3_1, x4_1, rfl, HA, HK1, HO_3, HB⟩ := hrel
  cases gk with
  | zero => exact absurd HA.out (by simp [basculeref03_read.l0])
  | succ k1 =>
   have H := HA.out
   clear HA
   simp only [basculeref03_read.l0] at H
   by_cases c2 : (wrap64 (x4_1 + 1)) < (l0.length : Int)
   ·rw [if_pos c2] at H
    have c2b0 : decide ((wrap64 (x4_1 + 1)) < (l0.length : Int)) = true := decide_eq_true c2
    clear c2
    by_cases c3 : 0 ≤ x4_1
    ·rw [if_pos c3] at H
     have c3b0 := eq_true c3
     have c3b1 : decide (0 ≤ x4_1) = true := decide_eq_true c3
     clear c3
     by_cases c4 : x4_1 ≤ (l0.length : Int)
     ·rw [if_pos c4] at H
      have c4b0 := eq_true c4
      have c4b1 : decide (x4_1 ≤ (l0.length : Int)) = true := decide_eq_true c4
      clear c4
      replace H := Option.bind_eq_some_iff.mp H
      obtain ⟨t233, A50, H⟩ := H
      replace H : (if x3_1.length < 17592186044416 then (basculeref03_read.l0 k1 l0 (x3_1 ++ [t233]) (wrap64 (x4_1 + 2))) else (none)) = some r := H
      have A5 := Aside0.mk A50
      clear A50
      by_cases c6 : x3_1.length < 17592186044416
      ·rw [if_pos c6] at H
       have LMc6 := Aside0.mk c6
       clear c6
       obtain ⟨y234, hy234⟩ : ∃ y_ : List Int, y_ = (x3_1 ++ [t233]) := ⟨_, rfl⟩
       replace H : (basculeref03_read.l0 k1 l0 y234 (wrap64 (x4_1 + 2))) = some r := by first | (rw [hy234]; with_reducible exact H) | (have H2_ := (Option.bind_some _ _).symm.trans H; rw [hy234]; with_reducible exact H2_) | (have H2_ := (Option.bind_some _ _).symm.trans H; with_reducible exact H2_) | with_reducible exact H | (rw [hy234]; exact H) | exact H
       have Ny234 := Aside0.mk hy234
       clear hy234
       have H' := Aside0.mk H
       clear H
       obtain ⟨i07, hi07, _, hsz7, _⟩ := info_parts info5
       obtain ⟨A7, hcut7, hA7, hC7⟩ := print_drop_of (P := Try.prog) (Value.int .u8) 0 58 5 .i64 Try.underlying58 hi07 hsz7 A0 c0 l0 x4_1 (of_decide_eq_true (by first | (with_reducible assumption) | assumption)) (of_decide_eq_true (by first | (with_reducible assumption) | assumption)) HC0.out
       have HR232 := Aside0.mk (Kd.C_of_reads (h1 := fun _ => rfl) (hA7 _ (Kd.reads_of_C HR0.out)))
       have HC232 := Aside0.mk hC7
       clear hA7 hC7 hi07 hsz7
       go_wp2_with (first | ((with_reducible refine gate_callee (f := 63) rfl ?_); refine goesL_ (some 16) rfl rfl Try.func63 (by kernel_rfl) rfl #[.slice A7 (l0.drop (x4_1 : Int).toNat).length (c0 - x4_1.toNat)] rfl (by (try simp only [List.map_toArray, List.map_cons, List.map_nil]); first | done | (rw [show (l0.drop (x4_1 : Int).toNat).length = (l0.length - x4_1.toNat) from List.length_drop] <;> rfl) | rfl | (simp only [List.length_drop, List.length_take]; rfl)) ?_; (with_reducible refine (basculeref01_Number.calls _ _ (l0.drop (x4_1 : Int).toNat) t233 _ ?side1 ?side2 A5.out).mono ?_); (case side1 => exact sc_ (Kd.C_below HR232.out HB.out)); (case side2 => exact HC232.out); rintro e w' ⟨rfl, ⟨nd, rfl⟩⟩; refine ⟨_, rfl, ?_⟩) | ((with_reducible refine gate_builtin (b := .append) (xs := #[.tmp 12, .tmp 17]) rfl ?_); at_builtin; refine Kd.R_append (Kd.int .i64) (w0 := w) w.heap.size rfl (.tmp 12) (.tmp 17) 22 3 (.int .i64 0) 8 rfl Try.underlying22 info3 rfl (by decide) (by omega) u3 x3_1 t233 [.int .i64 t233] (fun _ => True) (fun _ => False) rfl rfl ?aP (fun _ hk => hk.elim) ?aF ?aO ?aB ?aS ?aL ?_; (case aP => exact rfl); (case aB => exact (bl0_ HB)); (case aF => exact (fun _ _ => trivial)); (case aO => exact (kr_ HO_3)); (case aS => exact (below_size (bl0_ HB))); (case aL => have := LMc6.out; omega); intro v235 w8 ho hb hg hat; rw [← Ny234.out] at ho; have n0_ := Aside0.mk (hb); have n1_ := Aside0.mk (ho); clear HB; clear HO_3; have HB := n0_; have HO236 := n1_; clear n0_ n1_; clear ho hb hg hat))
       go_roundg k1
       case measure => have := HK1.out; omega
       case rel => exact ⟨(y234), (wrap64 (x4_1 + 2)), (by first | rfl | (simp; done) | (simp [*]; done)), H', ⟨by have := HK1.out; omega⟩, ⟨kr_ HO236⟩, ⟨bl0_ HB⟩⟩
      ·rw [if_neg c6] at H
       exact absurd H (by simp)
     ·rw [if_neg c4] at H
      exact absurd H (by simp)
    ·rw [if_neg c3] at H
     exact absurd H (by simp)
   ·rw [if_neg c2] at H
    have c2b0 : decide ((wrap64 (x4_1 + 1)) < (l0.length : Int)) = false := decide_eq_false c2
    clear c2
    obtain rfl := Option.some.inj H
    go_wp2
    go_ret
    exact ⟨_, er_, kr_ HO_3, bl0_ HB⟩
end Go.Proofs.Ytocicifgglkaeaa.PR
end

section
namespace Go.Proofs.Ytocicifgglkaeaa.PR
open Go.RowKit Go.Proofs.YtocicifgglkaeaaW.PrintWords Go.Proofs.YtocicifgglkaeaaW.PrintLast Go.Proofs.YtocicifgglkaeaaW.PrintMore
attribute [local go_sem] max2_int min2_int max_two min_two max_three min_three max_four min_four   
set_option linter.unusedVariables false
set_option linter.unusedSimpArgs false
open Go.Proofs.Ytocicifgglkaeaa.Ext Go.Proofs.Ytocicifgglkaeaa.PP Go.Proofs.Ytocicifgglkaeaa.ExtF Go.Proofs.Ytocicifgglkaeaa.PQ Go.Proofs.Ytocicifgglkaeaa.ExtM
def basculeref01_Ints.l0 : Nat → List Int → List Int → Int → Option (Bool)
 | 0, _, _, _ => none
 | k + 1, x0, x1, x5 => if x5 < (x0.length : Int) then (if 0 ≤ x5 then (if x5 < (x1.length : Int) then (if (rd x0 x5) = (rd x1 x5) then (basculeref01_Ints.l0 k x0 x1 (wrap64 (x5 + 1))) else (some false)) else (none)) else (none)) else (some true)
def basculeref01_Ints.f (k : Nat) (l0 : List Int) (l1 : List Int) : Option (Bool) := if (l0.length : Int) = (l1.length : Int) then (basculeref01_Ints.l0 k l0 l1 0) else (some false)
theorem basculeref01_Ints.mono_l : ∀ k, (∀ y0 y1 y2, LeO (basculeref01_Ints.l0 k y0 y1 y2) (basculeref01_Ints.l0 (k + 1) y0 y1 y2))
 | 0 => fun _ _ _ r h => by simp [basculeref01_Ints.l0] at h
 | k + 1 => by
  have ih0 := basculeref01_Ints.mono_l k
  ·intro y0 y1 y2
   unfold basculeref01_Ints.l0
   repeat' first
   | (with_reducible exact ih0 _ _ _)
   | (with_reducible exact LeO.refl _)
   | (with_reducible exact LeO.none _)
   | (with_reducible refine LeO.ite ?_ ?_)
   | (with_reducible refine LeO.bind ?_ (fun _ => ?_))
   | exact ih0 _ _ _
   | exact LeO.none _
   | refine LeO.ite ?_ ?_
   | refine LeO.bind ?_ (fun _ => ?_)
theorem basculeref01_Ints.mono : ∀ a0 a1 k, LeO (basculeref01_Ints.f k a0 a1) (basculeref01_Ints.f (k + 1) a0 a1) := by
 intro a0 a1 k
 have ih0 := basculeref01_Ints.mono_l k
 unfold basculeref01_Ints.f
 repeat' first
  | (with_reducible exact ih0 _ _ _)
  | (with_reducible exact LeO.refl _)
  | (with_reducible exact LeO.none _)
  | (with_reducible refine LeO.ite ?_ ?_)
  | (with_reducible refine LeO.bind ?_ (fun _ => ?_))
  | exact ih0 _ _ _
  | exact LeO.none _
  | refine LeO.ite ?_ ?_
  | refine LeO.bind ?_ (fun _ => ?_)
set_option maxHeartbeats 8000000 in
set_option maxRecDepth 100000 in
theorem basculeref01_Ints.calls (k : Nat) (A0 : Option Addr) (c0 : Nat) (l0 : List Int) (A1 : Option Addr) (c1 : Nat) (l1 : List Int) (r : Bool) (w : World) (hr0 : Kd.C (Kd.int .i64) w A0 l0.length l0) (hc0 : l0.length ≤ c0) (hr1 : Kd.C (Kd.int .i64) w A1 l1.length l1) (hc1 : l1.length ≤ c1) (h : basculeref01_Ints.f k l0 l1 = some r) :
 Calls Try.prog 42 #[.slice A0 l0.length c0, .slice A1 l1.length c1] w fun e w' => e = .returned (.bool r) ∧ Drawn0 w w' := by
 have HR0 := Aside0.mk hr0
 have HC0 := Aside0.mk hc0
 clear hr0 hc0
 have HR1 := Aside0.mk hr1
 have HC1 := Aside0.mk hc1
 clear hr1 hc1
 have H : (if (l0.length : Int) = (l1.length : Int) then (basculeref01_Ints.l0 k l0 l1 0) else (some false)) = some r := h
 clear h
 by_cases c3 : (l0.length : Int) = (l1.length : Int)
 ·rw [if_pos c3] at H
  have c3b0 : ((l0.length : Int) == (l1.length : Int)) = true := beq_iff_eq.mpr c3
  have c3b1 : ((l0.length : Int) != (l1.length : Int)) = false := bne_eq_false_iff_eq.mpr c3
  have c3b2 : (l0.length == l1.length) = true := by first | simpa using c3 | (simp at c3 ⊢; omega)
  clear c3
  have H' := Aside0.mk H
  clear H
  go_enter Try.func42, Try.ntmps42
  go_wp2
  repeat (go_quiet (fail); try go_wp2)
  go_loopg [5] k (fun kq v5 w' => ∃ (x5_1 : Int), v5 = .int .i64 x5_1 ∧ Aside0 (basculeref01_Ints.l0 kq l0 l1 x5_1 = some r) ∧ Aside0 (kq ≤ k) ∧ Drawn0 w w')
  case atStart => exact ⟨(0), (by first | rfl | (simp; done) | (simp [*]; done)), H', ⟨Nat.le_refl _⟩, by repeat (first | exact Drawn0.refl _ | apply Drawn0.step)⟩
  case round =>
   clear H'
   try clear c1
   try clear p2
   try clear c3
   try clear c3b0
   try clear c3b1
   try clear c3b2
   obtain ⟨x5_1, rfl, HA, HK1, ⟨m1, rfl⟩⟩ := hrel
   cases gk with
   | zero => exact absurd HA.out (by simp [basculeref01_Ints.l0])
   | succ k1 =>
    have H := HA.out
    clear HA
    simp only [basculeref01_Ints.l0] at H
    by_cases c4 : x5_1 < (l0.length : Int)
    ·rw [if_pos c4] at H
     have c4b0 : decide (x5_1 < (l0.length : Int)) = true := decide_eq_true c4
     clear c4
     by_cases c5 : 0 ≤ x5_1
     ·rw [if_pos c5] at H
      have c5b0 : decide (0 ≤ x5_1) = true := decide_eq_true c5
      clear c5
      by_cases c6 : x5_1 < (l1.length : Int)
      ·rw [if_pos c6] at H
       have c6b0 : decide (x5_1 < (l1.length : Int)) = true := decide_eq_true c6
       clear c6
       by_cases c7 : (rd l0 x5_1) = (rd l1 x5_1)
       ·rw [if_pos c7] at H
        have c7b0 : ((rd l0 x5_1) == (rd l1 x5_1)) = true := beq_iff_eq.mpr c7
        have c7b1 : ((rd l0 x5_1) != (rd l1 x5_1)) = false := bne_eq_false_iff_eq.mpr c7
        clear c7
        have H' := Aside0.mk H
        clear H
        have p385 : 0 ≤ (x5_1 : Int) := of_decide_eq_true (by first | (with_reducible assumption) | assumption)
        have q385 : x5_1 < (l0.length : Int) := of_decide_eq_true (by first | (with_reducible assumption) | assumption)
        obtain ⟨ad385, e385, hx385_0⟩ := Kd.at_int HR0.out x5_1 p385 q385
        cases e385
        replace p385 := eq_true p385
        replace q385 := eq_true q385
        have p386 : 0 ≤ (x5_1 : Int) := of_decide_eq_true (by first | (with_reducible assumption) | assumption)
        have q386 : x5_1 < (l1.length : Int) := of_decide_eq_true (by first | (with_reducible assumption) | assumption)
        obtain ⟨ad386, e386, hx386_0⟩ := Kd.at_int HR1.out x5_1 p386 q386
        cases e386
        replace p386 := eq_true p386
        replace q386 := eq_true q386
        go_wp2
        repeat (go_quiet (fail); try go_wp2)
        go_roundg k1
        case measure => have := HK1.out; omega
        case rel => exact ⟨(wrap64 (x5_1 + 1)), (by first | rfl | (simp; done) | (simp [*]; done)), H', ⟨by have := HK1.out; omega⟩, by repeat (first | exact Drawn0.refl _ | apply Drawn0.step)⟩
       ·rw [if_neg c7] at H
        have c7b0 : ((rd l0 x5_1) == (rd l1 x5_1)) = false := beq_eq_false_iff_ne.mpr c7
        have c7b1 : ((rd l0 x5_1) != (rd l1 x5_1)) = true := bne_iff_ne.mpr c7
        obtain rfl := Option.some.inj H
        have p385 : 0 ≤ (x5_1 : Int) := of_decide_eq_true (by first | (with_reducible assumption) | assumption)
        have q385 : x5_1 < (l0.length : Int) := of_decide_eq_true (by first | (with_reducible assumption) | assumption)
        obtain ⟨ad385, e385, hx385_0⟩ := Kd.at_int HR0.out x5_1 p385 q385
        cases e385
        replace p385 := eq_true p385
        replace q385 := eq_true q385
        have p386 : 0 ≤ (x5_1 : Int) := of_decide_eq_true (by first | (with_reducible assumption) | assumption)
        have q386 : x5_1 < (l1.length : Int) := of_decide_eq_true (by first | (with_reducible assumption) | assumption)
        obtain ⟨ad386, e386, hx386_0⟩ := Kd.at_int HR1.out x5_1 p386 q386
        cases e386
        replace p386 := eq_true p386
        replace q386 := eq_true q386
        go_wp2
        repeat (go_quiet (fail); try go_wp2)
        go_ret
        exact ⟨by first | rfl | (simp; done) | (simp [*]; done), by repeat (first | exact Drawn0.refl _ | apply Drawn0.step)⟩
      ·rw [if_neg c6] at H
       exact absurd H (by simp)
     ·rw [if_neg c5] at H
      exact absurd H (by simp)
    ·rw [if_neg c4] at H
     have c4b0 : decide (x5_1 < (l0.length : Int)) = false := decide_eq_false c4
     clear c4
     obtain rfl := Option.some.inj H
     go_wp2
     repeat (go_quiet (fail); try go_wp2)
     go_ret
     exact ⟨by first | rfl | (simp; done) | (simp [*]; done), by repeat (first | exact Drawn0.refl _ | apply Drawn0.step)⟩
 ·rw [if_neg c3] at H
  have c3b0 : ((l0.length : Int) == (l1.length : Int)) = false := beq_eq_false_iff_ne.mpr c3
  have c3b1 : ((l0.length : Int) != (l1.length : Int)) = true := bne_iff_ne.mpr c3
  have c3b2 : (l0.length == l1.length) = false := by first | simpa using c3 | (simp at c3 ⊢; omega)
  obtain rfl := Option.some.inj H
  go_enter Try.func42, Try.ntmps42
  go_wp2
  repeat (go_quiet (fail); try go_wp2)
  go_ret
  exact ⟨by first | rfl | (simp; done) | (simp [*]; done), by repeat (first | exact Drawn0.refl _ | apply Drawn0.step)⟩
def basculeref03_AnswerSame.f (k : Nat) (l0_0 : List Int) (a0_1 : Int) (l1_0 : List Int) (a1_1 : Int) : Option (Bool) := if a0_1 = a1_1 then ((basculeref01_Ints.f k l0_0 l1_0).bind fun t389 => (some t389)) else (some false)
theorem basculeref03_AnswerSame.mono : ∀ a0 a1 a2 a3 k, LeO (basculeref03_AnswerSame.f k a0 a1 a2 a3) (basculeref03_AnswerSame.f (k + 1) a0 a1 a2 a3) := by
 intro a0 a1 a2 a3 k
 unfold basculeref03_AnswerSame.f
 repeat' first
  | (with_reducible exact basculeref01_Ints.mono _ _ _)
  | (with_reducible exact LeO.refl _)
  | (with_reducible exact LeO.none _)
  | (with_reducible refine LeO.ite ?_ ?_)
  | (with_reducible refine LeO.bind ?_ (fun _ => ?_))
  | exact basculeref01_Ints.mono _ _ _
  | exact LeO.none _
  | refine LeO.ite ?_ ?_
  | refine LeO.bind ?_ (fun _ => ?_)
set_option maxHeartbeats 8000000 in
set_option maxRecDepth 100000 in
theorem basculeref03_AnswerSame.calls (k : Nat) (A0_0 : Option Addr) (c0_0 : Nat) (l0_0 : List Int) (a0_1 : Int) (A1_0 : Option Addr) (c1_0 : Nat) (l1_0 : List Int) (a1_1 : Int) (r : Bool) (w : World) (hr0_0 : Kd.C (Kd.int .i64) w A0_0 l0_0.length l0_0) (hc0_0 : l0_0.length ≤ c0_0) (hr1_0 : Kd.C (Kd.int .i64) w A1_0 l1_0.length l1_0) (hc1_0 : l1_0.length ≤ c1_0) (h : basculeref03_AnswerSame.f k l0_0 a0_1 l1_0 a1_1 = some r) :
 Calls Try.prog 17 #[.agg #[.slice A0_0 l0_0.length c0_0, .int .i64 a0_1], .agg #[.slice A1_0 l1_0.length c1_0, .int .i64 a1_1]] w fun e w' => e = .returned (.bool r) ∧ Below w.heap.size w w' := by
 have hu30 := Try.underlying30
 have HR0_0 := Aside0.mk hr0_0
 have HC0_0 := Aside0.mk hc0_0
 clear hr0_0 hc0_0
 have HR1_0 := Aside0.mk hr1_0
 have HC1_0 := Aside0.mk hc1_0
 clear hr1_0 hc1_0
 have HB := Aside0.mk (Below.refl w.heap.size w)
 have H : (if a0_1 = a1_1 then ((basculeref01_Ints.f k l0_0 l1_0).bind fun t389 => (some t389)) else (some false)) = some r := h
 clear h
 by_cases c3 : a0_1 = a1_1
 ·rw [if_pos c3] at H
  have c3b0 : (a0_1 == a1_1) = true := beq_iff_eq.mpr c3
  have c3b1 : (a0_1 != a1_1) = false := bne_eq_false_iff_eq.mpr c3
  clear c3
  replace H := Option.bind_eq_some_iff.mp H
  obtain ⟨t389, A40, H⟩ := H
  replace H : (some t389) = some r := H
  have A4 := Aside0.mk A40
  clear A40
  obtain rfl := Option.some.inj H
  go_enter Try.func17, Try.ntmps17
  go_wp2_with (first | ((with_reducible refine gate_dst (N := 2) rfl ?_); refine bx_ (N := 2) (cs := #[.slice A0_0 l0_0.length c0_0, .int .i64 a0_1]) (t := 30) ?_; intro gb387 hg w5 hbox hb; have n0_ := Aside0.mk (below_step (bl0_ HB) hb); have n1_ := Aside0.mk (hbox); have n2_ := Aside0.mk ((by rw [hg]; exact (below_size (bl0_ HB)) : w.heap.size ≤ gb387)); have n3_ := Aside0.mk ((by rw [hg]; exact (below_size (bl0_ HB)) : w.heap.size ≤ gb387)); clear HB; have HB := n0_; have BK387 := n1_; have GW387 := n2_; have GE387 := n3_; clear n0_ n1_ n2_ n3_; clear hb hbox hg) | ((with_reducible refine gate_dst (N := 3) rfl ?_); refine bx_ (N := 3) (cs := #[.slice A1_0 l1_0.length c1_0, .int .i64 a1_1]) (t := 30) ?_; intro gb388 hg w6 hbox hb; have n0_ := Aside0.mk (blk_below (g := gb387) (bk_ BK387) hb); have n1_ := Aside0.mk (below_step (bl1_ HB GE387) hb); have n2_ := Aside0.mk (hbox); have n3_ := Aside0.mk ((by rw [hg]; exact (below_size (bl1_ HB GE387)) : w.heap.size ≤ gb388)); have n4_ := Aside0.mk ((by rw [hg]; exact (below_size (bl1_ HB GE387)) : w.heap.size ≤ gb388)); have n5_ := Aside0.mk ((by rw [hg]; exact Nat.ne_of_lt (blk_lt (g := gb387) (bk_ BK387)) : gb387 ≠ gb388)); have n6_ := Aside0.mk ((by rw [hg]; exact Nat.ne_of_gt (blk_lt (g := gb387) (bk_ BK387)) : gb388 ≠ gb387)); clear BK387; clear HB; have BK387 := n0_; have HB := n1_; have BK388 := n2_; have GW388 := n3_; have GE388 := n4_; have NB387_388 := n5_; have NB388_387 := n6_; clear n0_ n1_ n2_ n3_ n4_ n5_ n6_; clear hb hbox hg; have hnb7 := NB387_388.out; have hnc7 := NB388_387.out; refine cz2_ BK387.out ?_; intro hcz8_0 hcz8_1 hfz8_0 hfz8_1; refine cz2_ BK388.out ?_; intro hcz9_0 hcz9_1 hfz9_0 hfz9_1) | (go_at_call 42; (with_reducible refine (basculeref01_Ints.calls k _ _ l0_0 _ _ l1_0 t389 _ ?side1 ?side2 ?side3 ?side4 A4.out).mono ?_); (case side1 => exact sc_ (Kd.C_below HR0_0.out HB.out)); (case side2 => exact HC0_0.out); (case side3 => exact sc_ (Kd.C_below HR1_0.out HB.out)); (case side4 => exact HC1_0.out); rintro e w' ⟨rfl, ⟨nd, rfl⟩⟩))
  go_ret
  exact ⟨er_, bl2_ HB GE387 GE388⟩
 ·rw [if_neg c3] at H
  have c3b0 : (a0_1 == a1_1) = false := beq_eq_false_iff_ne.mpr c3
  have c3b1 : (a0_1 != a1_1) = true := bne_iff_ne.mpr c3
  obtain rfl := Option.some.inj H
  go_enter Try.func17, Try.ntmps17
  go_wp2_with (first | ((with_reducible refine gate_dst (N := 2) rfl ?_); refine bx_ (N := 2) (cs := #[.slice A0_0 l0_0.length c0_0, .int .i64 a0_1]) (t := 30) ?_; intro gb387 hg w10 hbox hb; have n0_ := Aside0.mk (below_step (bl0_ HB) hb); have n1_ := Aside0.mk (hbox); have n2_ := Aside0.mk ((by rw [hg]; exact (below_size (bl0_ HB)) : w.heap.size ≤ gb387)); have n3_ := Aside0.mk ((by rw [hg]; exact (below_size (bl0_ HB)) : w.heap.size ≤ gb387)); clear HB; have HB := n0_; have BK387 := n1_; have GW387 := n2_; have GE387 := n3_; clear n0_ n1_ n2_ n3_; clear hb hbox hg) | ((with_reducible refine gate_dst (N := 3) rfl ?_); refine bx_ (N := 3) (cs := #[.slice A1_0 l1_0.length c1_0, .int .i64 a1_1]) (t := 30) ?_; intro gb388 hg w11 hbox hb; have n0_ := Aside0.mk (blk_below (g := gb387) (bk_ BK387) hb); have n1_ := Aside0.mk (below_step (bl1_ HB GE387) hb); have n2_ := Aside0.mk (hbox); have n3_ := Aside0.mk ((by rw [hg]; exact (below_size (bl1_ HB GE387)) : w.heap.size ≤ gb388)); have n4_ := Aside0.mk ((by rw [hg]; exact (below_size (bl1_ HB GE387)) : w.heap.size ≤ gb388)); have n5_ := Aside0.mk ((by rw [hg]; exact Nat.ne_of_lt (blk_lt (g := gb387) (bk_ BK387)) : gb387 ≠ gb388)); have n6_ := Aside0.mk ((by rw [hg]; exact Nat.ne_of_gt (blk_lt (g := gb387) (bk_ BK387)) : gb388 ≠ gb387)); clear BK387; clear HB; have BK387 := n0_; have HB := n1_; have BK388 := n2_; have GW388 := n3_; have GE388 := n4_; have NB387_388 := n5_; have NB388_387 := n6_; clear n0_ n1_ n2_ n3_ n4_ n5_ n6_; clear hb hbox hg; have hnb12 := NB387_388.out; have hnc12 := NB388_387.out; refine cz2_ BK387.out ?_; intro hcz13_0 hcz13_1 hfz13_0 hfz13_1; refine cz2_ BK388.out ?_; intro hcz14_0 hcz14_1 hfz14_0 hfz14_1))
  go_ret
  exact ⟨er_, bl2_ HB GE387 GE388⟩
def basculelaw03_small.f (a0_0 : Int) (a0_1 : Int) (a0_2 : Int) (l0_3 : List Int) (a0_4 : Int) (a0_5 : Int) (a0_6 : Int) : Option (Bool) := some (decide ((l0_3.length : Int) ≤ 2100))
set_option maxHeartbeats 8000000 in
set_option maxRecDepth 100000 in
theorem basculelaw03_small.calls (a0_0 : Int) (a0_1 : Int) (a0_2 : Int) (A0_3 : Option Addr) (c0_3 : Nat) (l0_3 : List Int) (a0_4 : Int) (a0_5 : Int) (a0_6 : Int) (r : Bool) (w : World) (hr0_3 : Kd.C (Kd.int .i64) w A0_3 l0_3.length l0_3) (hc0_3 : l0_3.length ≤ c0_3) (h : basculelaw03_small.f a0_0 a0_1 a0_2 l0_3 a0_4 a0_5 a0_6 = some r) :
 Calls Try.prog 28 #[.agg #[.int .i64 a0_0, .int .i64 a0_1, .int .i64 a0_2, .slice A0_3 l0_3.length c0_3, .int .i64 a0_4, .int .i64 a0_5, .int .i64 a0_6]] w fun e w' => e = .returned (.bool r) ∧ Below w.heap.size w w' := by
 have hu24 := Try.underlying24
 have HR0_3 := Aside0.mk hr0_3
 have HC0_3 := Aside0.mk hc0_3
 clear hr0_3 hc0_3
 have HB := Aside0.mk (Below.refl w.heap.size w)
 have H : (some (decide ((l0_3.length : Int) ≤ 2100))) = some r := h
 clear h
 obtain rfl := Option.some.inj H
 go_enter Try.func28, Try.ntmps28
 go_wp2_with (first | ((with_reducible refine gate_dst (N := 1) rfl ?_); refine bx_ (N := 1) (cs := #[.int .i64 a0_0, .int .i64 a0_1, .int .i64 a0_2, .slice A0_3 l0_3.length c0_3, .int .i64 a0_4, .int .i64 a0_5, .int .i64 a0_6]) (t := 24) ?_; intro gb393 hg w2 hbox hb; have n0_ := Aside0.mk (below_step (bl0_ HB) hb); have n1_ := Aside0.mk (hbox); have n2_ := Aside0.mk ((by rw [hg]; exact (below_size (bl0_ HB)) : w.heap.size ≤ gb393)); have n3_ := Aside0.mk ((by rw [hg]; exact (below_size (bl0_ HB)) : w.heap.size ≤ gb393)); clear HB; have HB := n0_; have BK393 := n1_; have GW393 := n2_; have GE393 := n3_; clear n0_ n1_ n2_ n3_; clear hb hbox hg; refine cz7_ BK393.out ?_; intro hcz3_0 hcz3_1 hcz3_2 hcz3_3 hcz3_4 hcz3_5 hcz3_6 hfz3_0 hfz3_1 hfz3_2 hfz3_3 hfz3_4 hfz3_5 hfz3_6))
 go_ret
 exact ⟨er_, bl1_ HB GE393⟩
end Go.Proofs.Ytocicifgglkaeaa.PR
end

section
namespace Go.Proofs.Ytocicifgglkaeaa.MathP
open Go.RowKit Go.Proofs.YtocicifgglkaeaaW.PrintWords Go.Proofs.YtocicifgglkaeaaW.PrintLast Go.Proofs.YtocicifgglkaeaaW.PrintMore Go.Proofs.Ytocicifgglkaeaa.Ext Go.Proofs.Ytocicifgglkaeaa.ExtF Go.Proofs.Ytocicifgglkaeaa.PP Go.Proofs.Ytocicifgglkaeaa.PQ Go.Proofs.Ytocicifgglkaeaa.ExtM Go.Proofs.Ytocicifgglkaeaa.PR
set_option linter.unusedVariables false
def Bytes (l : List Int) : Prop := ∀ x ∈ l, 0 ≤ x ∧ x < 256
instance (l : List Int) : Decidable (Bytes l) := by unfold Bytes; infer_instance
theorem bytes_rd {l : List Int} (hb : Bytes l) (i : Int) : 0 ≤ rd l i ∧ rd l i < 256 := by
 unfold rd
 rcases Nat.lt_or_ge i.toNat l.length with h | h
 ·rw [List.getD_eq_getElem?_getD, List.getElem?_eq_getElem h]
  exact hb _ (List.getElem_mem h)
 ·rw [List.getD_eq_getElem?_getD, List.getElem?_eq_none h]
  exact ⟨by decide, by decide⟩
theorem or_bit : ∀ m : Fin 8, ∀ p : Fin 128, p.1 < 2 ^ m.1 → Go.bits .or .u8 (p.1 : Int) (shl .u8 1 (m.1 : Int)) = (p.1 : Int) + 2 ^ m.1 := by decide +kernel
theorem and_bit : ∀ m : Fin 8, ∀ x : Fin 256, Go.bits .and .i64 (wrap64 (shr .u8 (x.1 : Int) (m.1 : Int))) 1 = (x.1 : Int) / 2 ^ m.1 % 2 := by decide +kernel
theorem bits_rd {l : List Int} (hb : Bits l) (i : Int) : rd l i = 0 ∨ rd l i = 1 := by
 unfold rd
 rcases Nat.lt_or_ge i.toNat l.length with h | h
 ·rw [List.getD_eq_getElem?_getD, List.getElem?_eq_getElem h]
  exact hb _ (List.getElem_mem h)
 ·rw [List.getD_eq_getElem?_getD, List.getElem?_eq_none h]
  exact Or.inl rfl
theorem rd_out (l : List Int) (i : Nat) (h : l.length ≤ i) : rd l (i : Int) = 0 := by
 unfold rd
 rw [List.getD_eq_getElem?_getD, Int.toNat_natCast, List.getElem?_eq_none h]
 rfl
def part (l : List Int) (i : Nat) : Nat → Int
 | 0 => 0
 | m + 1 => part l i m + 2 ^ m * rd l ((i + m : Nat) : Int)
theorem part_range {l : List Int} (hb : Bits l) (i : Nat) : ∀ m, 0 ≤ part l i m ∧ part l i m < 2 ^ m
 | 0 => by simp [part]
 | m + 1 => by
  have ih := part_range hb i m
  have h2 : (2 : Int) ^ (m + 1) = 2 * 2 ^ m := by rw [Int.pow_succ]; omega
  unfold part
  rcases bits_rd hb ((i + m : Nat) : Int) with h | h <;> rw [h] <;> omega
theorem part_beyond (l : List Int) (i : Nat) : ∀ (d m : Nat), l.length ≤ i + m → part l i (m + d) = part l i m
 | 0, m, _ => rfl
 | d + 1, m, h => by
  rw [← Nat.add_assoc]
  show part l i (m + d) + 2 ^ (m + d) * rd l ((i + (m + d) : Nat) : Int) = part l i m
  rw [rd_out l _ (by omega), part_beyond l i d m h]
  omega
def packs (l : List Int) : List Int := (List.range ((l.length + 7) / 8)).map fun j => part l (8 * j) 8
def bitOf (b : List Int) (i : Nat) : Int := rd b ((i / 8 : Nat) : Int) / 2 ^ (i % 8) % 2
def unbits (b : List Int) (n : Nat) : List Int := (List.range n).map (bitOf b)
theorem tdiv8 (i : Nat) (h : i ≤ 1000000000000000000) : wrap64 (Int.tdiv (i : Int) 8) = ((i / 8 : Nat) : Int) := by
 rw [Int.tdiv_eq_ediv_of_nonneg (by omega), wrap64_id _ (by omega) (by omega)]; omega
theorem tmod8 (i : Nat) : Int.tmod (i : Int) 8 = ((i % 8 : Nat) : Int) := by
 rw [Int.tmod_eq_emod_of_nonneg (by omega)]; omega
theorem pow8 (m : Nat) (h : m ≤ 8) : (2 : Int) ^ m ≤ 256 ∧ 0 < (2 : Int) ^ m := by
 have : m = 0 ∨ m = 1 ∨ m = 2 ∨ m = 3 ∨ m = 4 ∨ m = 5 ∨ m = 6 ∨ m = 7 ∨ m = 8 := by omega
 rcases this with rfl | rfl | rfl | rfl | rfl | rfl | rfl | rfl | rfl <;> simp
theorem rp_l1' (l : List Int) (hb : Bits l) (hl : l.length ≤ 1000000000000) (o : List Int) (ho : o.length < 140737488355328) (i : Nat) (hi : i ≤ l.length) (r : List Int) : ∀ (d m k : Nat), m + d = 8 →
 (∀ k', k ≤ k' → basculeref01_Pack.l0 k' l (o ++ [part l i 8]) ((i + 8 : Nat) : Int) = some r) → basculeref01_Pack.l1 (k + d + 1) l o (i : Int) (part l i m) (2 ^ m) ((i + m : Nat) : Int) = some r
 | d, m, k, hmd, hr => by
  have hp := part_range hb i m
  have h8 := pow8 m (by omega)
  have hp8 := part_range hb i 8
  have hw : wrap64 ((i : Int) + 8) = ((i + 8 : Nat) : Int) := by rw [wrap64_id _ (by omega) (by omega)]; omega
  have hmod : part l i 8 % 256 = part l i 8 := by have := hp8.2; omega
  unfold basculeref01_Pack.l1
  rw [hw]
  match d, hmd with
  | 0, hmd =>
   obtain rfl : m = 8 := by omega
   rw [if_neg (by omega), if_pos ho, hmod]
   exact hr _ (by omega)
  | d + 1, hmd =>
   rw [if_pos (by omega)]
   by_cases hc : i + m < l.length
   ·rw [if_pos (by omega), if_pos (by omega)]
    have hrd := bits_rd hb ((i + m : Nat) : Int)
    have e1 : wrap64 (part l i m + wrap64 (2 ^ m * rd l ((i + m : Nat) : Int))) = part l i (m + 1) := by
     show _ = part l i m + 2 ^ m * rd l ((i + m : Nat) : Int)
     rcases hrd with h | h <;> rw [h]
     ·rw [Int.mul_zero, wrap64_id 0 (by omega) (by omega), wrap64_id _ (by omega) (by omega)]
     ·rw [Int.mul_one, wrap64_id (2 ^ m) (by omega) (by omega), wrap64_id _ (by omega) (by omega)]
    have e2 : wrap64 (2 * 2 ^ m) = 2 ^ (m + 1) := by rw [wrap64_id _ (by omega) (by omega), Int.pow_succ]; omega
    have e3 : wrap64 (((i + m : Nat) : Int) + 1) = ((i + (m + 1) : Nat) : Int) := by rw [wrap64_id _ (by omega) (by omega)]; omega
    rw [e1, e2, e3]
    exact rp_l1' l hb hl o ho i hi r d (m + 1) k (by omega) hr
   ·rw [if_neg (by omega), if_pos ho]
    have : part l i 8 = part l i m := by
     have := part_beyond l i (d + 1) m (by omega)
     rw [hmd] at this
     exact this
    rw [← this, hmod]
    exact hr _ (by omega)
theorem rp_l0 (l : List Int) (hb : Bits l) (hl : l.length ≤ 1000000000000) : ∀ (d j k : Nat), j + d = (l.length + 7) / 8 → 20 * d + 1 ≤ k →
 basculeref01_Pack.l0 k l ((List.range j).map fun j => part l (8 * j) 8) ((8 * j : Nat) : Int) = some (packs l)
 | 0, j, k, hj, hk => by
  obtain ⟨k, rfl⟩ := Nat.exists_eq_add_of_le' (show 1 ≤ k by omega)
  unfold basculeref01_Pack.l0
  rw [if_neg (by omega)]
  unfold packs
  rw [← hj, Nat.add_zero]
 | d + 1, j, k, hj, hk => by
  obtain ⟨k, rfl⟩ := Nat.exists_eq_add_of_le' (show 20 * d + 10 + 1 ≤ k by omega)
  have : k + (20 * d + 10 + 1) = (k + 20 * d + 1 + 8 + 1) + 1 := by omega
  rw [this]
  unfold basculeref01_Pack.l0
  rw [if_pos (by omega)]
  refine rp_l1' l hb hl _ (by simp; omega) (8 * j) (by omega) _ 8 0 (k + 20 * d + 1) (by omega) (fun k' hk' => ?_)
  have := rp_l0 l hb hl d (j + 1) k' (by omega) (by omega)
  rw [List.range_succ, List.map_append] at this
  rw [show 8 * j + 8 = 8 * (j + 1) from by omega]
  exact this
theorem refpack_f (l : List Int) (hb : Bits l) (hl : l.length ≤ 1000000000000) (k : Nat) (hk : 3 * l.length + 100 ≤ k) : basculeref01_Pack.f k l = some (packs l) := by
 unfold basculeref01_Pack.f
 exact rp_l0 l hb hl ((l.length + 7) / 8) 0 k (by omega) (by omega)
theorem or_step (p : Int) (m : Nat) (hm : m < 8) (h : 0 ≤ p ∧ p < 2 ^ m) : Go.bits .or .u8 p (shl .u8 1 (m : Int)) = p + 2 ^ m := by
 obtain ⟨q, rfl⟩ := Int.eq_ofNat_of_zero_le h.1
 have h2 : q < 2 ^ m := by have := h.2; exact_mod_cast this
 have h3 : (2 : Nat) ^ m ≤ 2 ^ 7 := Nat.pow_le_pow_right (by omega) (by omega)
 exact or_bit ⟨m, hm⟩ ⟨q, by omega⟩ h2
def upto (l : List Int) (n i : Nat) : List Int := (List.range n).map fun j => part l (8 * j) (min 8 (i - 8 * j))
theorem upto_len (l : List Int) (n i : Nat) : (upto l n i).length = n := by simp [upto]
theorem upto_rd (l : List Int) (n i j : Nat) (h : j < n) : rd (upto l n i) (j : Int) = part l (8 * j) (min 8 (i - 8 * j)) := by
 unfold rd
 rw [Int.toNat_natCast, List.getD_eq_getElem?_getD, List.getElem?_eq_getElem (by rw [upto_len]; exact h)]
 simp [upto]
theorem upto_zero (l : List Int) (n i : Nat) (hn : i / 8 < n) (h : rd l (i : Int) = 0) : upto l n (i + 1) = upto l n i := by
 unfold upto
 apply List.map_congr_left
 intro j hj
 by_cases hc : i / 8 = j
 ·subst hc
  rw [show min 8 (i + 1 - 8 * (i / 8)) = min 8 (i - 8 * (i / 8)) + 1 from by omega]
  show _ + 2 ^ _ * rd l ((8 * (i / 8) + min 8 (i - 8 * (i / 8)) : Nat) : Int) = _
  rw [show 8 * (i / 8) + min 8 (i - 8 * (i / 8)) = i from by omega, h]
  omega
 ·rw [show min 8 (i + 1 - 8 * j) = min 8 (i - 8 * j) from by omega]
theorem upto_one (l : List Int) (hb : Bits l) (n i : Nat) (hn : i / 8 < n) (h : rd l (i : Int) = 1) :
 (upto l n i).set (i / 8) (Go.bits .or .u8 (rd (upto l n i) ((i / 8 : Nat) : Int)) (shl .u8 1 ((i % 8 : Nat) : Int))) = upto l n (i + 1) := by
 rw [upto_rd l n i (i / 8) hn, show min 8 (i - 8 * (i / 8)) = i % 8 from by omega, or_step _ _ (by omega) (part_range hb _ _)]
 apply List.ext_getElem
 ·simp [upto]
 intro j h1 h2
 have hj : j < n := by rw [upto_len] at h2; exact h2
 rw [List.getElem_set]
 by_cases hc : i / 8 = j
 ·subst hc
  rw [if_pos rfl]
  simp only [upto, List.getElem_map, List.getElem_range]
  rw [show min 8 (i + 1 - 8 * (i / 8)) = i % 8 + 1 from by omega]
  show _ = _ + 2 ^ _ * rd l ((8 * (i / 8) + i % 8 : Nat) : Int)
  rw [show 8 * (i / 8) + i % 8 = i from by omega, h, Int.mul_one]
 ·rw [if_neg hc]
  simp only [upto, List.getElem_map, List.getElem_range]
  rw [show min 8 (i + 1 - 8 * j) = min 8 (i - 8 * j) from by omega]
theorem upto_end (l : List Int) : upto l ((l.length + 7) / 8) l.length = packs l := by
 unfold upto packs
 apply List.map_congr_left
 intro j hj
 have hj := List.mem_range.1 hj
 by_cases hc : 8 * j + 8 ≤ l.length
 ·rw [show min 8 (l.length - 8 * j) = 8 from by omega]
 ·have := part_beyond l (8 * j) (8 - (l.length - 8 * j)) (l.length - 8 * j) (by omega)
  rw [show l.length - 8 * j + (8 - (l.length - 8 * j)) = 8 from by omega] at this
  rw [this, show min 8 (l.length - 8 * j) = l.length - 8 * j from by omega]
theorem wp_l0 (l : List Int) (hb : Bits l) (hl : l.length ≤ 1000000000000) : ∀ (d i k : Nat), i + d = l.length → d + 1 ≤ k →
 wire_Pack.l0 k (upto l ((l.length + 7) / 8) i) l (l.length : Int) (i : Int) = some (packs l, 0)
 | 0, i, k, hi, hk => by
  obtain ⟨k, rfl⟩ := Nat.exists_eq_add_of_le' (show 1 ≤ k by omega)
  unfold wire_Pack.l0
  rw [if_neg (by omega), show i = l.length from by omega, upto_end]
 | d + 1, i, k, hi, hk => by
  obtain ⟨k, rfl⟩ := Nat.exists_eq_add_of_le' (show 1 ≤ k by omega)
  have hw : wrap64 ((i : Int) + 1) = ((i + 1 : Nat) : Int) := by rw [wrap64_id _ (by omega) (by omega)]; omega
  have ih := wp_l0 l hb hl d (i + 1) k (by omega) (by omega)
  unfold wire_Pack.l0
  rw [if_pos (by omega), if_pos (by omega), if_pos (by omega), hw]
  rcases bits_rd hb (i : Int) with h | h
  ·rw [if_pos h, ← upto_zero l _ i (by omega) h]
   exact ih
  ·rw [if_neg (by omega), if_pos h, tdiv8 i (by omega), tmod8, if_pos (by omega), if_pos (by rw [upto_len]; omega), if_pos (by omega), Int.toNat_natCast, upto_one l hb _ i (by omega) h]
   exact ih
theorem upto_nought (l : List Int) (n : Nat) : List.replicate n (0 : Int) = upto l n 0 := by
 unfold upto
 apply List.ext_getElem
 ·simp
 intro i h1 h2
 simp [part]
theorem pack_start (l : List Int) (hl : l.length ≤ 1000000000000) (k : Nat) : wire_Pack.f k l = wire_Pack.l0 k (upto l ((l.length + 7) / 8) 0) l (l.length : Int) 0 := by
 unfold wire_Pack.f
 have hw : wrap64 ((l.length : Int) + 7) = ((l.length + 7 : Nat) : Int) := by rw [wrap64_id _ (by omega) (by omega)]; omega
 rw [hw, tdiv8 _ (by omega), if_pos (by omega), if_pos (by omega), Int.toNat_natCast, upto_nought]
theorem pack_yes (l : List Int) (hb : Bits l) (hl : l.length ≤ 1000000000000) (k : Nat) (hk : l.length + 1 ≤ k) : wire_Pack.f k l = some (packs l, 0) := by
 rw [pack_start l hl]
 exact wp_l0 l hb hl l.length 0 k (by omega) hk
theorem bits_l0 (l : List Int) (hl : l.length ≤ 1000000000000) : ∀ (d i k : Nat), i + d = l.length → d + 1 ≤ k → basculeref01_Bits.l0 k l (i : Int) = some (decide (Bits (l.drop i)))
 | 0, i, k, hi, hk => by
  obtain ⟨k, rfl⟩ := Nat.exists_eq_add_of_le' (show 1 ≤ k by omega)
  unfold basculeref01_Bits.l0
  rw [if_neg (by omega), List.drop_of_length_le (by omega), decide_eq_true (show Bits [] from fun x hx => by cases hx)]
 | d + 1, i, k, hi, hk => by
  obtain ⟨k, rfl⟩ := Nat.exists_eq_add_of_le' (show 1 ≤ k by omega)
  have hw : wrap64 ((i : Int) + 1) = ((i + 1 : Nat) : Int) := by rw [wrap64_id _ (by omega) (by omega)]; omega
  have hlt : i < l.length := by omega
  have hrd : rd l (i : Int) = l[i] := by simp [rd, List.getElem?_eq_getElem hlt]
  have hcons : l.drop i = l[i] :: l.drop (i + 1) := List.drop_eq_getElem_cons hlt
  have ih := bits_l0 l hl d (i + 1) k (by omega) (by omega)
  have hb : Bits (l.drop i) ↔ (rd l (i : Int) = 0 ∨ rd l (i : Int) = 1) ∧ Bits (l.drop (i + 1)) := by
   rw [hcons, hrd]
   unfold Bits
   exact List.forall_mem_cons
  unfold basculeref01_Bits.l0
  rw [if_pos (by omega), if_pos (by omega), hw]
  by_cases h0 : rd l (i : Int) = 0
  ·rw [if_pos h0, ih]
   simp only [Option.some.injEq, decide_eq_decide]
   rw [hb]; simp [h0]
  ·by_cases h1 : rd l (i : Int) = 1
   ·rw [if_neg h0, if_pos h1, ih]
    simp only [Option.some.injEq, decide_eq_decide]
    rw [hb]; simp [h1]
   ·rw [if_neg h0, if_neg h1]
    simp only [Option.some.injEq]
    rw [eq_comm, decide_eq_false_iff_not, hb]
    omega
theorem bits_f (l : List Int) (hl : l.length ≤ 1000000000000) (k : Nat) (hk : l.length + 1 ≤ k) : basculeref01_Bits.f k l = some (decide (Bits l)) := by
 have := bits_l0 l hl l.length 0 k (by omega) hk
 rw [List.drop_zero] at this
 exact this
theorem ints_l0 (l : List Int) (hl : l.length ≤ 1000000000000) : ∀ (d i k : Nat), i + d = l.length → d + 1 ≤ k → basculeref01_Ints.l0 k l l (i : Int) = some true
 | 0, i, k, hi, hk => by
  obtain ⟨k, rfl⟩ := Nat.exists_eq_add_of_le' (show 1 ≤ k by omega)
  unfold basculeref01_Ints.l0
  rw [if_neg (by omega)]
 | d + 1, i, k, hi, hk => by
  obtain ⟨k, rfl⟩ := Nat.exists_eq_add_of_le' (show 1 ≤ k by omega)
  have hw : wrap64 ((i : Int) + 1) = ((i + 1 : Nat) : Int) := by rw [wrap64_id _ (by omega) (by omega)]; omega
  unfold basculeref01_Ints.l0
  rw [if_pos (by omega), if_pos (by omega), if_pos (by omega), if_pos rfl, hw]
  exact ints_l0 l hl d (i + 1) k (by omega) (by omega)
theorem ints_f (l : List Int) (hl : l.length ≤ 1000000000000) (k : Nat) (hk : l.length + 1 ≤ k) : basculeref01_Ints.f k l l = some true := by
 unfold basculeref01_Ints.f
 rw [if_pos rfl]
 exact ints_l0 l hl l.length 0 k (by omega) hk
theorem and_step (x : Int) (m : Nat) (hm : m < 8) (h : 0 ≤ x ∧ x < 256) : Go.bits .and .i64 (wrap64 (shr .u8 x (m : Int))) 1 = x / 2 ^ m % 2 := by
 obtain ⟨q, rfl⟩ := Int.eq_ofNat_of_zero_le h.1
 exact and_bit ⟨m, hm⟩ ⟨q, by omega⟩
theorem unbits_len (b : List Int) (n : Nat) : (unbits b n).length = n := by simp [unbits]
theorem wu_l0 (b : List Int) (hb : Bytes b) (n : Nat) (hn : n ≤ 8 * b.length) (hl : b.length ≤ 1000000000000) : ∀ (d i k : Nat), i + d = n → d + 1 ≤ k →
 wire_Unpack.l0 k b ((unbits b n).take i ++ List.replicate (n - i) 0) (n : Int) (i : Int) = some (unbits b n, 0)
 | 0, i, k, hi, hk => by
  obtain ⟨k, rfl⟩ := Nat.exists_eq_add_of_le' (show 1 ≤ k by omega)
  unfold wire_Unpack.l0
  rw [if_neg (by omega), show n - i = 0 from by omega, List.replicate_zero, List.append_nil, List.take_of_length_le (by rw [unbits_len]; omega)]
 | d + 1, i, k, hi, hk => by
  obtain ⟨k, rfl⟩ := Nat.exists_eq_add_of_le' (show 1 ≤ k by omega)
  have hw : wrap64 ((i : Int) + 1) = ((i + 1 : Nat) : Int) := by rw [wrap64_id _ (by omega) (by omega)]; omega
  have hlt : i < (unbits b n).length := by rw [unbits_len]; omega
  have ih := wu_l0 b hb n hn hl d (i + 1) k (by omega) (by omega)
  have hset : ((unbits b n).take i ++ List.replicate (n - i) 0).set i (bitOf b i) = (unbits b n).take (i + 1) ++ List.replicate (n - (i + 1)) 0 := by
   rw [List.set_append_right _ _ (by rw [List.length_take, unbits_len]; omega), show i - ((unbits b n).take i).length = 0 from by rw [List.length_take, unbits_len]; omega, show n - i = (n - (i + 1)) + 1 from by omega, List.replicate_succ, List.set_cons_zero, List.take_succ_eq_append_getElem hlt, List.append_assoc]
   simp [unbits]
  unfold wire_Unpack.l0
  rw [if_pos (by omega), tdiv8 i (by omega), tmod8, if_pos (by omega), if_pos (by omega), if_pos (by omega), if_pos (by omega), if_pos (by rw [List.length_append, List.length_take, unbits_len, List.length_replicate]; omega), hw, and_step _ _ (by omega) (bytes_rd hb _), Int.toNat_natCast]
  show wire_Unpack.l0 k b (List.set _ i (bitOf b i)) _ _ = _
  rw [hset]
  exact ih
theorem unpack_yes (b : List Int) (hb : Bytes b) (n : Nat) (hn : n ≤ 8 * b.length) (hl : b.length ≤ 1000000000000) (k : Nat) (hk : n + 1 ≤ k) : wire_Unpack.f k b (n : Int) = some (unbits b n, 0) := by
 unfold wire_Unpack.f
 rw [wrap64_id (8 * (b.length : Int)) (by omega) (by omega), if_neg (by omega), if_neg (by omega), if_pos (by omega), if_pos (by omega), Option.bind_some, Int.toNat_natCast, List.length_replicate]
 have := wu_l0 b hb n hn hl n 0 k (by omega) hk
 rw [List.take_zero, List.nil_append] at this
 exact this
theorem tdivs (x : Nat) (h : x ≤ 1000000000000000000) : wrap64 (Int.tdiv (x : Int) 2) = ((x / 2 : Nat) : Int) := by
 rw [Int.tdiv_eq_ediv_of_nonneg (by omega), wrap64_id _ (by omega) (by omega)]; omega
theorem ru_l1 (b : List Int) (n : Int) (o : List Int) (ho : o.length < 17592186044416) (i : Nat) (hi : i ≤ 1000000000000000) (r : List Int) : ∀ (d m k x : Nat), x < 256 → m + d = i % 8 →
 basculeref01_Unpack.l0 k b n (o ++ [((x / 2 ^ d % 2 : Nat) : Int)]) ((i + 1 : Nat) : Int) = some r → basculeref01_Unpack.l1 (k + d + 1) b n o (i : Int) (x : Int) (m : Int) = some r
 | 0, m, k, x, hx, hm, hr => by
  have hw : wrap64 ((i : Int) + 1) = ((i + 1 : Nat) : Int) := by rw [wrap64_id _ (by omega) (by omega)]; omega
  unfold basculeref01_Unpack.l1
  rw [tmod8, if_neg (by omega), if_pos ho, hw, show Int.tmod (x : Int) 2 = ((x % 2 : Nat) : Int) from by rw [Int.tmod_eq_emod_of_nonneg (by omega)]; omega]
  simpa using hr
 | d + 1, m, k, x, hx, hm, hr => by
  have hw : wrap64 ((m : Int) + 1) = ((m + 1 : Nat) : Int) := by rw [wrap64_id _ (by omega) (by omega)]; omega
  rw [show k + (d + 1) + 1 = (k + d + 1) + 1 from by omega]
  unfold basculeref01_Unpack.l1
  rw [tmod8, if_pos (by omega), hw, tdivs x (by omega)]
  refine ru_l1 b n o ho i hi r d (m + 1) k (x / 2) (by omega) (by omega) ?_
  rw [Nat.div_div_eq_div_mul, show 2 * 2 ^ d = 2 ^ (d + 1) from by rw [Nat.pow_succ]; omega]
  exact hr
theorem ru_l0 (b : List Int) (hb : Bytes b) (n : Nat) (hn : n ≤ 8 * b.length) (hl : b.length ≤ 100000000000) : ∀ (d i k : Nat), i + d = n → 20 * d + 1 ≤ k →
 basculeref01_Unpack.l0 k b (n : Int) ((unbits b n).take i) (i : Int) = some (unbits b n)
 | 0, i, k, hi, hk => by
  obtain ⟨k, rfl⟩ := Nat.exists_eq_add_of_le' (show 1 ≤ k by omega)
  unfold basculeref01_Unpack.l0
  rw [if_neg (by omega), List.take_of_length_le (by rw [unbits_len]; omega)]
 | d + 1, i, k, hi, hk => by
  obtain ⟨k, rfl⟩ := Nat.exists_eq_add_of_le' (show i % 8 + 2 ≤ k by omega)
  have hlt : i < (unbits b n).length := by rw [unbits_len]; omega
  have hby := bytes_rd hb ((i / 8 : Nat) : Int)
  rw [show k + (i % 8 + 2) = (k + i % 8 + 1) + 1 from by omega]
  unfold basculeref01_Unpack.l0
  rw [if_pos (by omega), tdiv8 i (by omega), if_pos (by omega), if_pos (by omega), wrap64_id _ (by omega) (by omega)]
  obtain ⟨x, hx⟩ := Int.eq_ofNat_of_zero_le hby.1
  rw [hx]
  refine ru_l1 b n _ (by rw [List.length_take, unbits_len]; omega) i (by omega) _ (i % 8) 0 k x (by omega) (by omega) ?_
  have ih := ru_l0 b hb n hn hl d (i + 1) k (by omega) (by omega)
  rw [List.take_succ_eq_append_getElem hlt] at ih
  have e : (unbits b n)[i] = ((x / 2 ^ (i % 8) % 2 : Nat) : Int) := by
   simp only [unbits, List.getElem_map, List.getElem_range, bitOf]
   rw [hx]
   simp
  rw [e] at ih
  exact ih
theorem refunpack_f (b : List Int) (hb : Bytes b) (n : Nat) (hn : n ≤ 8 * b.length) (hl : b.length ≤ 100000000000) (k : Nat) (hk : 20 * n + 1 ≤ k) : basculeref01_Unpack.f k b (n : Int) = some (unbits b n) := by
 have := ru_l0 b hb n hn hl n 0 k (by omega) hk
 rw [List.take_zero] at this
 exact this
end Go.Proofs.Ytocicifgglkaeaa.MathP
end

section
namespace Go.Proofs.Ytocicifgglkaeaa.PR
open Go.RowKit Go.Proofs.YtocicifgglkaeaaW.PrintWords Go.Proofs.YtocicifgglkaeaaW.PrintLast Go.Proofs.YtocicifgglkaeaaW.PrintMore
attribute [local go_sem] max2_int min2_int max_two min_two max_three min_three max_four min_four   
set_option linter.unusedVariables false
set_option linter.unusedSimpArgs false
open Go.Proofs.Ytocicifgglkaeaa.Ext Go.Proofs.Ytocicifgglkaeaa.PP Go.Proofs.Ytocicifgglkaeaa.ExtF Go.Proofs.Ytocicifgglkaeaa.PQ Go.Proofs.Ytocicifgglkaeaa.ExtM
def basculeref03_Bytes.j0 : Nat → List Int → Int → Bool → Int → Int → Int → List Int → Int → Int → Int → Option (List Int)
 | 0, _, _, _, _, _, _, _, _, _, _ => none
 | k + 1, x3, x9, x10, x131000, x131001, x131002, x131003, x131004, x131005, x131006 => if x10 = true then ((basculeref03_lay.f k (([x131001, x131002] : List Int))).bind fun t137 => (if x3.length + t137.length < 140737488355328 then (some (x3 ++ t137)) else (none))) else (if x9 = 5 then (if 0 < (x131003.length : Int) then ((basculeref03_lay.f k (([x131001, wrap64 (65280 * (rd x131003 0))] : List Int))).bind fun t147 => (if x3.length + t147.length < 140737488355328 then (some (x3 ++ t147)) else (none))) else (none)) else (if x9 = 6 then (if 0 < (x131003.length : Int) then ((basculeref03_lay.f k (([x131001, rd x131003 0] : List Int))).bind fun t157 => (if x3.length + t157.length < 140737488355328 then (some (x3 ++ t157)) else (none))) else (none)) else (if x9 = 15 then ((basculeref03_lay.f k (([x131001, x131002] : List Int))).bind fun t166 => (if x3.length + t166.length < 140737488355328 then ((some (x3 ++ t166 : List Int)).bind fun y169 => ((basculeref01_Pack.f k x131003).bind fun t172 => ((basculeref03_counted.f t172).bind fun t175 => (if y169.length + t175.length < 140737488355328 then (some (y169 ++ t175)) else (none))))) else (none))) else (if x9 = 16 then ((basculeref03_lay.f k (([x131001, x131002] : List Int))).bind fun t184 => (if x3.length + t184.length < 140737488355328 then ((some (x3 ++ t184 : List Int)).bind fun y187 => ((basculeref03_lay.f k x131003).bind fun t190 => ((basculeref03_counted.f t190).bind fun t193 => (if y187.length + t193.length < 140737488355328 then (some (y187 ++ t193)) else (none))))) else (none))) else (if x9 = 22 then ((basculeref03_lay.f k (([x131001, x131005, x131006] : List Int))).bind fun t202 => (if x3.length + t202.length < 140737488355328 then (some (x3 ++ t202)) else (none))) else ((basculeref03_lay.f k (([x131001, x131002, x131004, (x131003.length : Int)] : List Int))).bind fun t211 => (if x3.length + t211.length < 140737488355328 then ((some (x3 ++ t211 : List Int)).bind fun y214 => ((basculeref03_lay.f k x131003).bind fun t217 => ((basculeref03_counted.f t217).bind fun t220 => (if y214.length + t220.length < 140737488355328 then (some (y214 ++ t220)) else (none))))) else (none))))))))
def basculeref03_Bytes.f (k : Nat) (a0_0 : Int) (a0_1 : Int) (a0_2 : Int) (l0_3 : List Int) (a0_4 : Int) (a0_5 : Int) (a0_6 : Int) : Option (List Int) := (some (([(a0_0) % 256] : List Int) : List Int)).bind fun y131 => (if a0_0 = 1 then (basculeref03_Bytes.j0 k y131 a0_0 (a0_0 == 1) a0_0 a0_1 a0_2 l0_3 a0_4 a0_5 a0_6) else (if a0_0 = 2 then (basculeref03_Bytes.j0 k y131 a0_0 (a0_0 == 2) a0_0 a0_1 a0_2 l0_3 a0_4 a0_5 a0_6) else (if a0_0 = 3 then (basculeref03_Bytes.j0 k y131 a0_0 (a0_0 == 3) a0_0 a0_1 a0_2 l0_3 a0_4 a0_5 a0_6) else (basculeref03_Bytes.j0 k y131 a0_0 (a0_0 == 4) a0_0 a0_1 a0_2 l0_3 a0_4 a0_5 a0_6))))
theorem basculeref03_Bytes.mono_l : ∀ k, (∀ y0 y1 y2 y3 y4 y5 y6 y7 y8 y9, LeO (basculeref03_Bytes.j0 k y0 y1 y2 y3 y4 y5 y6 y7 y8 y9) (basculeref03_Bytes.j0 (k + 1) y0 y1 y2 y3 y4 y5 y6 y7 y8 y9))
 | 0 => fun _ _ _ _ _ _ _ _ _ _ r h => by simp [basculeref03_Bytes.j0] at h
 | k + 1 => by
  have ih0 := basculeref03_Bytes.mono_l k
  ·intro y0 y1 y2 y3 y4 y5 y6 y7 y8 y9
   unfold basculeref03_Bytes.j0
   repeat' first
   | (with_reducible exact ih0 _ _ _ _ _ _ _ _ _ _)
   | (with_reducible exact basculeref01_Pack.mono _ _)
   | (with_reducible exact basculeref03_lay.mono _ _)
   | (with_reducible exact LeO.refl _)
   | (with_reducible exact LeO.none _)
   | (with_reducible refine LeO.ite ?_ ?_)
   | (with_reducible refine LeO.bind ?_ (fun _ => ?_))
   | exact ih0 _ _ _ _ _ _ _ _ _ _
   | exact basculeref01_Pack.mono _ _
   | exact basculeref03_lay.mono _ _
   | exact LeO.none _
   | refine LeO.ite ?_ ?_
   | refine LeO.bind ?_ (fun _ => ?_)
theorem basculeref03_Bytes.mono : ∀ a0 a1 a2 a3 a4 a5 a6 k, LeO (basculeref03_Bytes.f k a0 a1 a2 a3 a4 a5 a6) (basculeref03_Bytes.f (k + 1) a0 a1 a2 a3 a4 a5 a6) := by
 intro a0 a1 a2 a3 a4 a5 a6 k
 have ih0 := basculeref03_Bytes.mono_l k
 unfold basculeref03_Bytes.f
 repeat' first
  | (with_reducible exact ih0 _ _ _ _ _ _ _ _ _ _)
  | (with_reducible exact basculeref01_Pack.mono _ _)
  | (with_reducible exact basculeref03_lay.mono _ _)
  | (with_reducible exact LeO.refl _)
  | (with_reducible exact LeO.none _)
  | (with_reducible refine LeO.ite ?_ ?_)
  | (with_reducible refine LeO.bind ?_ (fun _ => ?_))
  | exact ih0 _ _ _ _ _ _ _ _ _ _
  | exact basculeref01_Pack.mono _ _
  | exact basculeref03_lay.mono _ _
  | exact LeO.none _
  | refine LeO.ite ?_ ?_
  | refine LeO.bind ?_ (fun _ => ?_)
def basculeref03_Bytes.T10 : Bool × List (List Nat × List Nat) := (true, [([], []), ([], []), ([1], [1]), ([], []), ([3], [3]), ([4], [4]), ([5], [5]), ([6], [6]), ([2, 7], [2, 7]), ([8], [8]), ([0, 9, 9], [0, 9]), ([10, 10, 0, 1, 2, 3, 4, 5, 6, 7, 8, 9, 10], [0, 10])])
def basculeref03_Bytes.B10 : List Nat := [0, 0, 2, 0, 8, 24, 56, 120, 254, 510, 1023, 2047]
theorem basculeref03_Bytes.tab10 : rtab .any (opsOf Try.f33 10) = basculeref03_Bytes.T10 := by kernel_rfl
theorem basculeref03_Bytes.bits10 : waitsOk basculeref03_Bytes.T10.2 basculeref03_Bytes.B10 = true := by kernel_rfl
def basculeref03_Bytes.T13 : Bool × List (List Nat × List Nat) := (true, [([], []), ([], []), ([1], [1]), ([], []), ([3], [3]), ([4], [4]), ([5], [5]), ([2, 6], [2, 6]), ([7], [7]), ([0, 8, 8], [0, 8]), ([9, 9, 0, 1, 2, 3, 4, 5, 6, 7, 8, 9], [0, 9])])
def basculeref03_Bytes.B13 : List Nat := [0, 0, 2, 0, 8, 24, 56, 126, 254, 511, 1023]
theorem basculeref03_Bytes.tab13 : rtab .any (opsOf Try.f33 13) = basculeref03_Bytes.T13 := by kernel_rfl
theorem basculeref03_Bytes.bits13 : waitsOk basculeref03_Bytes.T13.2 basculeref03_Bytes.B13 = true := by kernel_rfl
set_option maxHeartbeats 8000000 in
set_option maxRecDepth 100000 in
theorem basculeref03_Bytes.calls (k : Nat) (a0_0 : Int) (a0_1 : Int) (a0_2 : Int) (A0_3 : Option Addr) (c0_3 : Nat) (l0_3 : List Int) (a0_4 : Int) (a0_5 : Int) (a0_6 : Int) (r : List Int) (w : World) (hr0_3 : Kd.C (Kd.int .i64) w A0_3 l0_3.length l0_3) (hc0_3 : l0_3.length ≤ c0_3) (h : basculeref03_Bytes.f k a0_0 a0_1 a0_2 l0_3 a0_4 a0_5 a0_6 = some r) :
 Calls Try.prog 33 #[.agg #[.int .i64 a0_0, .int .i64 a0_1, .int .i64 a0_2, .slice A0_3 l0_3.length c0_3, .int .i64 a0_4, .int .i64 a0_5, .int .i64 a0_6]] w fun e w' => ∃ v0_ : Value, e = .returned (v0_) ∧ Kd.R (Kd.int .u8) 5 w' w.heap.size (fun _ => True) v0_ r ∧ Below w.heap.size w w' := by
 have hu24 := Try.underlying24
 have HR0_3 := Aside0.mk hr0_3
 have HC0_3 := Aside0.mk hc0_3
 clear hr0_3 hc0_3
 have HB := Aside0.mk (Below.refl w.heap.size w)
 have H : ((some (([(a0_0) % 256] : List Int) : List Int)).bind fun y131 => (if a0_0 = 1 then (basculeref03_Bytes.j0 k y131 a0_0 (a0_0 == 1) a0_0 a0_1 a0_2 l0_3 a0_4 a0_5 a0_6) else (if a0_0 = 2 then (basculeref03_Bytes.j0 k y131 a0_0 (a0_0 == 2) a0_0 a0_1 a0_2 l0_3 a0_4 a0_5 a0_6) else (if a0_0 = 3 then (basculeref03_Bytes.j0 k y131 a0_0 (a0_0 == 3) a0_0 a0_1 a0_2 l0_3 a0_4 a0_5 a0_6) else (basculeref03_Bytes.j0 k y131 a0_0 (a0_0 == 4) a0_0 a0_1 a0_2 l0_3 a0_4 a0_5 a0_6))))) = some r := h
 clear h
 obtain ⟨y131, hy131⟩ : ∃ y_ : List Int, y_ = (([(a0_0) % 256] : List Int)) := ⟨_, rfl⟩
 replace H : (if a0_0 = 1 then (basculeref03_Bytes.j0 k y131 a0_0 (a0_0 == 1) a0_0 a0_1 a0_2 l0_3 a0_4 a0_5 a0_6) else (if a0_0 = 2 then (basculeref03_Bytes.j0 k y131 a0_0 (a0_0 == 2) a0_0 a0_1 a0_2 l0_3 a0_4 a0_5 a0_6) else (if a0_0 = 3 then (basculeref03_Bytes.j0 k y131 a0_0 (a0_0 == 3) a0_0 a0_1 a0_2 l0_3 a0_4 a0_5 a0_6) else (basculeref03_Bytes.j0 k y131 a0_0 (a0_0 == 4) a0_0 a0_1 a0_2 l0_3 a0_4 a0_5 a0_6)))) = some r := by first | (rw [hy131]; with_reducible exact H) | (have H2_ := (Option.bind_some _ _).symm.trans H; rw [hy131]; with_reducible exact H2_) | (have H2_ := (Option.bind_some _ _).symm.trans H; with_reducible exact H2_) | with_reducible exact H | (rw [hy131]; exact H) | exact H
 have Ny131 := Aside0.mk hy131
 clear hy131
 have HC2 := Aside0.mk H
 clear H
 go_enter Try.func33, Try.ntmps33
 go_upto_if 10 with (first | ((with_reducible refine gate_dst (N := 1) rfl ?_); refine bx_ (N := 1) (cs := #[.int .i64 a0_0, .int .i64 a0_1, .int .i64 a0_2, .slice A0_3 l0_3.length c0_3, .int .i64 a0_4, .int .i64 a0_5, .int .i64 a0_6]) (t := 24) ?_; intro gb130 hg w3 hbox hb; have n0_ := Aside0.mk (below_step (bl0_ HB) hb); have n1_ := Aside0.mk (hbox); have n2_ := Aside0.mk ((by rw [hg]; exact (below_size (bl0_ HB)) : w.heap.size ≤ gb130)); have n3_ := Aside0.mk ((by rw [hg]; exact (below_size (bl0_ HB)) : w.heap.size ≤ gb130)); clear HB; have HB := n0_; have BK130 := n1_; have GW130 := n2_; have GE130 := n3_; clear n0_ n1_ n2_ n3_; clear hb hbox hg; refine cz7_ BK130.out ?_; intro hcz4_0 hcz4_1 hcz4_2 hcz4_3 hcz4_4 hcz4_5 hcz4_6 hfz4_0 hfz4_1 hfz4_2 hfz4_3 hfz4_4 hfz4_5 hfz4_6) | ((with_reducible refine gate_dst (N := 7) rfl ?_); refine Kd.R_lit (Kd.int .u8) _ 5 ?hg (N := 7) ?hd (xs := ([(a0_0) % 256] : List Int)) (inner := [.int .u8 ((a0_0) % 256)]) (ok := fun _ => True) (okp := fun _ => True) ?hr ?hp (fun _ hk => hk) trivial (Below.refl _ _) (Nat.le_refl _) (by simp) ?_; (case hd => rfl); (case hg => rfl); (case hr => first | (go_simp; done) | (go_simp; rfl)); (case hp => exact (Reps.one (show Kd.M (Kd.int .u8) _ _ _ ((a0_0) % 256) [.int .u8 ((a0_0) % 256)] from rfl) (Reps.none _ _))); intro v132 w5 ho6 hb hg_ hnew_; clear hg_ hnew_; (first | rw [← Ny131.out] at ho6 | (simp only [Int.reduceToNat] at ho6; rw [← Ny131.out] at ho6)); have n0_ := Aside0.mk (Kd.R_lower ho6 (below_size (bl1_ HB GE130))); have n1_ := Aside0.mk (blk_below (g := gb130) (bk_ BK130) hb); have n2_ := Aside0.mk (below_step (bl1_ HB GE130) hb); clear BK130; clear HB; have HO133 := n0_; have BK130 := n1_; have HB := n2_; clear n0_ n1_ n2_; clear hb ho6; refine cz7_ BK130.out ?_; intro hcz7_0 hcz7_1 hcz7_2 hcz7_3 hcz7_4 hcz7_5 hcz7_6 hfz7_0 hfz7_1 hfz7_2 hfz7_3 hfz7_4 hfz7_5 hfz7_6))
 (try simp only [Act.put, List.setIfInBounds_toArray, List.set_cons_zero, List.set_cons_succ])
 go_cut [10] (fun v10 wc => ∃ (kq : Nat) (x10_1 : Bool), v10 = .bool x10_1 ∧ Aside0 (basculeref03_Bytes.j0 kq y131 a0_0 x10_1 a0_0 a0_1 a0_2 l0_3 a0_4 a0_5 a0_6 = some r) ∧ Aside0 (kq ≤ k) ∧ Aside0 (Kd.R (Kd.int .u8) 5 wc w.heap.size (fun _ => True) v132 y131) ∧ Aside0 (wc.heap[gb130]? = some (.cells #[.int .i64 a0_0, .int .i64 a0_1, .int .i64 a0_2, (.slice A0_3 l0_3.length c0_3), .int .i64 a0_4, .int .i64 a0_5, .int .i64 a0_6] 24 (0, 0))) ∧ Aside0 (Below w.heap.size w wc))
 case first =>
  have H := HC2.out
  clear HC2
  by_cases c8 : a0_0 = 1
  ·rw [if_pos c8] at H
   have c8b0 : (a0_0 == 1) = true := beq_iff_eq.mpr c8
   have c8b1 : (a0_0 != 1) = false := bne_eq_false_iff_eq.mpr c8
   clear c8
   (first | rw [c8b0] | (simp only [i64_w, i32_w]; rw [c8b0]) | skip)
   have H' := Aside0.mk H
   clear H
   go_wp2
   go_meet
   case rel => exact ⟨_, ((a0_0 == 1)), (by first | rfl | (simp; done) | (simp [*]; done)), H', ⟨by first | omega | exact Nat.le_refl _⟩, ⟨kr_ HO133⟩, ⟨bk_ BK130⟩, ⟨bl1_ HB GE130⟩⟩
  ·rw [if_neg c8] at H
   have c8b0 : (a0_0 == 1) = false := beq_eq_false_iff_ne.mpr c8
   have c8b1 : (a0_0 != 1) = true := bne_iff_ne.mpr c8
   (first | rw [c8b0] | (simp only [i64_w, i32_w]; rw [c8b0]) | skip)
   by_cases c9 : a0_0 = 2
   ·rw [if_pos c9] at H
    have c9b0 : (a0_0 == 2) = true := beq_iff_eq.mpr c9
    have c9b1 : (a0_0 != 2) = false := bne_eq_false_iff_eq.mpr c9
    clear c9
    have H' := Aside0.mk H
    clear H
    go_wp2
    go_meet
    case rel => exact ⟨_, ((a0_0 == 2)), (by first | rfl | (simp; done) | (simp [*]; done)), H', ⟨by first | omega | exact Nat.le_refl _⟩, ⟨kr_ HO133⟩, ⟨bk_ BK130⟩, ⟨bl1_ HB GE130⟩⟩
   ·rw [if_neg c9] at H
    have c9b0 : (a0_0 == 2) = false := beq_eq_false_iff_ne.mpr c9
    have c9b1 : (a0_0 != 2) = true := bne_iff_ne.mpr c9
    by_cases c10 : a0_0 = 3
    ·rw [if_pos c10] at H
     have c10b0 : (a0_0 == 3) = true := beq_iff_eq.mpr c10
     have c10b1 : (a0_0 != 3) = false := bne_eq_false_iff_eq.mpr c10
     clear c10
     have H' := Aside0.mk H
     clear H
     go_wp2
     go_meet
     case rel => exact ⟨_, ((a0_0 == 3)), (by first | rfl | (simp; done) | (simp [*]; done)), H', ⟨by first | omega | exact Nat.le_refl _⟩, ⟨kr_ HO133⟩, ⟨bk_ BK130⟩, ⟨bl1_ HB GE130⟩⟩
    ·rw [if_neg c10] at H
     have c10b0 : (a0_0 == 3) = false := beq_eq_false_iff_ne.mpr c10
     have c10b1 : (a0_0 != 3) = true := bne_iff_ne.mpr c10
     have H' := Aside0.mk H
     clear H
     go_wp2
     go_meet
     case rel => exact ⟨_, ((a0_0 == 4)), (by first | rfl | (simp; done) | (simp [*]; done)), H', ⟨by first | omega | exact Nat.le_refl _⟩, ⟨kr_ HO133⟩, ⟨bk_ BK130⟩, ⟨bl1_ HB GE130⟩⟩
 case rest =>
  clear HC2
  try clear c1
  try clear p2
  try clear c3
  try clear c8
  try clear c8b0
  try clear c8b1
  try clear c9
  try clear c9b0
  try clear c9b1
  try clear c10
  try clear c10b0
  try clear c10b1
  try clear hcz4_0 hcz4_1 hcz4_2 hcz4_3 hcz4_4 hcz4_5 hcz4_6
  try clear hcz7_0 hcz7_1 hcz7_2 hcz7_3 hcz7_4 hcz7_5 hcz7_6
  try clear hfz4_0 hfz4_1 hfz4_2 hfz4_3 hfz4_4 hfz4_5 hfz4_6
  try clear hfz7_0 hfz7_1 hfz7_2 hfz7_3 hfz7_4 hfz7_5 hfz7_6
  obtain ⟨kq, x10_1, rfl, HA, HJ1, HO_3, BK130, HB⟩ := hcut
  cases kq with
  | zero => exact absurd HA.out (by simp [basculeref03_Bytes.j0])
  | succ kj1 =>
   have H := HA.out
   clear HA
   simp only [basculeref03_Bytes.j0] at H
   by_cases c11 : x10_1 = true
   ·subst c11
    have H1 : ((basculeref03_lay.f kj1 (([a0_1, a0_2] : List Int))).bind fun t137 => (if y131.length + t137.length < 140737488355328 then (some (y131 ++ t137)) else (none))) = some r := by rw [if_pos rfl] at H; exact H
    clear H
    have H := H1
    clear H1
    obtain ⟨y134, hy134⟩ : ∃ y_ : List Int, y_ = (([a0_1, a0_2] : List Int)) := ⟨_, rfl⟩
    replace H : ((basculeref03_lay.f kj1 y134).bind fun t137 => (if y131.length + t137.length < 140737488355328 then (some (y131 ++ t137)) else (none))) = some r := by first | (rw [hy134]; with_reducible exact H) | (have H2_ := (Option.bind_some _ _).symm.trans H; rw [hy134]; with_reducible exact H2_) | (have H2_ := (Option.bind_some _ _).symm.trans H; with_reducible exact H2_) | with_reducible exact H | (rw [hy134]; exact H) | exact H
    have Ny134 := Aside0.mk hy134
    clear hy134
    replace H := Option.bind_eq_some_iff.mp H
    obtain ⟨t137, A120, H⟩ := H
    replace H : (if y131.length + t137.length < 140737488355328 then (some (y131 ++ t137)) else (none)) = some r := H
    have A12 := Aside0.mk A120
    clear A120
    by_cases c13 : y131.length + t137.length < 140737488355328
    ·rw [if_pos c13] at H
     have LMc13 := Aside0.mk c13
     clear c13
     obtain ⟨y140, hy140⟩ : ∃ y_ : List Int, y_ = (y131 ++ t137) := ⟨_, rfl⟩
     replace H : (some y140) = some r := by first | (rw [hy140]; with_reducible exact H) | (have H2_ := (Option.bind_some _ _).symm.trans H; rw [hy140]; with_reducible exact H2_) | (have H2_ := (Option.bind_some _ _).symm.trans H; with_reducible exact H2_) | with_reducible exact H | (rw [hy140]; exact H) | exact H
     have Ny140 := Aside0.mk hy140
     clear hy140
     obtain rfl := Option.some.inj H
     refine cz7_ BK130.out ?_; intro hcz14_0 hcz14_1 hcz14_2 hcz14_3 hcz14_4 hcz14_5 hcz14_6 hfz14_0 hfz14_1 hfz14_2 hfz14_3 hfz14_4 hfz14_5 hfz14_6
     go_wp2_with (first | ((with_reducible refine gate_dst (N := 20) rfl ?_); refine Kd.R_lit (Kd.int .i64) _ 3 ?hg (N := 20) ?hd (xs := ([a0_1, a0_2] : List Int)) (inner := [.int .i64 a0_1, .int .i64 a0_2]) (ok := fun _ => True) (okp := fun _ => True) ?hr ?hp (fun _ hk => hk) trivial (Below.refl _ _) (Nat.le_refl _) (by simp) ?_; (case hd => rfl); (case hg => rfl); (case hr => first | (go_simp; done) | (go_simp; rfl)); (case hp => exact (Reps.one (show Kd.M (Kd.int .i64) _ _ _ a0_1 [.int .i64 a0_1] from rfl) (Reps.one (show Kd.M (Kd.int .i64) _ _ _ a0_2 [.int .i64 a0_2] from rfl) (Reps.none _ _)))); intro v135 w15 ho16 hb hg_ hnew_; clear hg_ hnew_; (first | rw [← Ny134.out] at ho16 | (simp only [Int.reduceToNat] at ho16; rw [← Ny134.out] at ho16)); have n0_ := Aside0.mk (Kd.R_below (kr_ HO_3) hb); have n1_ := Aside0.mk (Kd.R_lower ho16 (below_size (bl1_ HB GE130))); have n2_ := Aside0.mk (blk_below (g := gb130) (bk_ BK130) hb); have n3_ := Aside0.mk (below_step (bl1_ HB GE130) hb); clear HO_3; clear BK130; clear HB; have HO_3 := n0_; have HO136 := n1_; have BK130 := n2_; have HB := n3_; clear n0_ n1_ n2_ n3_; clear hb ho16; obtain ⟨Ao17, co17, eo17⟩ := Kd.R_slice HO136.out; subst eo17) | ((with_reducible refine gate_callee (f := 56) rfl ?_); refine goesL_ (some 21) rfl rfl Try.func56 (by kernel_rfl) rfl #[.slice Ao17 y134.length co17] rfl ar_ ?_; (with_reducible refine (basculeref03_lay.calls kj1 _ _ y134 t137 _ ?side1 ?side2 A12.out).mono ?_); (case side1 => exact sc_ (Kd.R_reads' HO136.out).2.2); (case side2 => exact (Kd.R_reads' HO136.out).2.1); rintro e w18 ⟨v138, rfl, ho0, hb⟩; refine ⟨_, rfl, ?_⟩; have n0_ := Aside0.mk (Kd.R_elder' (kr_ HO_3) (Kd.R_base ho0) hb); have n1_ := Aside0.mk (Kd.R_below (kr_ HO136) hb); have n2_ := Aside0.mk (Kd.R_lower (Kd.R_new' ho0 (Kd.R_lt (kr_ HO_3))) (below_size (bl1_ HB GE130))); have n3_ := Aside0.mk (blk_below (g := gb130) (bk_ BK130) hb); have n4_ := Aside0.mk (below_step (bl1_ HB GE130) hb); clear HO_3; clear HO136; clear BK130; clear HB; have HO_3 := n0_; have HO136 := n1_; have HO139 := n2_; have BK130 := n3_; have HB := n4_; clear n0_ n1_ n2_ n3_ n4_; (try clear hb); (try clear hb2); (try clear hk); (try clear hi); (try clear ho0); obtain ⟨Ao20, co20, eo20⟩ := Kd.R_slice HO139.out; subst eo20) | ((with_reducible refine gate_builtin (b := .append) (xs := #[.tmp 15, .tmp 21]) rfl ?_); at_builtin; refine Kd.R_append_rows (Kd.int .u8) (w0 := w) w.heap.size rfl (.tmp 15) (.tmp 21) 58 5 (.int .u8 0) 1 rfl Try.underlying58 info5 rfl (by decide) (by omega) v132 y131 t137 _ _ _ (fun k_ => some k_ ≠ (.slice Ao20 t137.length co20 : Value).ownBlock) (fun _ => False) rfl rfl ?aO ?aR (fun _ _ h => h) (fun _ h => h.elim) ?aF ?aB ?aS ?aL ?_; (case aR => exact sc_ (Kd.R_reads' HO139.out).2.2); (case aB => exact (bl1_ HB GE130)); (case aF => exact (fun k_ hk => Kd.fresh' (Kd.R_lt (kr_ HO139)) k_ hk)); (case aO => exact (by (with_reducible repeat (first | apply Kd.R_alloc | apply Kd.R_drewN | apply Kd.R_drew)); exact Kd.R_mono HO_3.out (fun _ hk => hk.2))); (case aS => exact (below_size (bl1_ HB GE130))); (case aL => have := LMc13.out; omega); intro v141 w19 ho hb hg hat; rw [← Ny140.out] at ho; have n0_ := Aside0.mk (blk_grown (g := gb130) (bk_ BK130) hg (Kd.R_ne HO_3.out BK130.out (by decide))); have n1_ := Aside0.mk (Kd.R_over' (kr_ HO136) (Kd.R_typed (kr_ HO_3)) (by decide) hg); have n2_ := Aside0.mk (Kd.R_after (ok := (fun _ => True)) (kr_ HO139) hg hat); have n3_ := Aside0.mk (hb); have n4_ := Aside0.mk (ho); clear BK130; clear HO136; clear HO139; clear HB; clear HO_3; have BK130 := n0_; have HO136 := n1_; have HO139 := n2_; have HB := n3_; have HO142 := n4_; clear n0_ n1_ n2_ n3_ n4_; clear ho hb hg hat))
     go_ret
     exact ⟨_, er_, by (with_reducible repeat (first | apply Kd.R_alloc | apply Kd.R_drewN | apply Kd.R_drew)); exact Kd.R_mono HO142.out (fun _ hk => trivial), bl1_ HB GE130⟩
    ·rw [if_neg c13] at H
     exact absurd H (by simp)
   ·replace c11 := Bool.eq_false_iff.mpr c11
    subst c11
    have H1 : (if a0_0 = 5 then (if 0 < (l0_3.length : Int) then ((basculeref03_lay.f kj1 (([a0_1, wrap64 (65280 * (rd l0_3 0))] : List Int))).bind fun t147 => (if y131.length + t147.length < 140737488355328 then (some (y131 ++ t147)) else (none))) else (none)) else (if a0_0 = 6 then (if 0 < (l0_3.length : Int) then ((basculeref03_lay.f kj1 (([a0_1, rd l0_3 0] : List Int))).bind fun t157 => (if y131.length + t157.length < 140737488355328 then (some (y131 ++ t157)) else (none))) else (none)) else (if a0_0 = 15 then ((basculeref03_lay.f kj1 (([a0_1, a0_2] : List Int))).bind fun t166 => (if y131.length + t166.length < 140737488355328 then ((some (y131 ++ t166 : List Int)).bind fun y169 => ((basculeref01_Pack.f kj1 l0_3).bind fun t172 => ((basculeref03_counted.f t172).bind fun t175 => (if y169.length + t175.length < 140737488355328 then (some (y169 ++ t175)) else (none))))) else (none))) else (if a0_0 = 16 then ((basculeref03_lay.f kj1 (([a0_1, a0_2] : List Int))).bind fun t184 => (if y131.length + t184.length < 140737488355328 then ((some (y131 ++ t184 : List Int)).bind fun y187 => ((basculeref03_lay.f kj1 l0_3).bind fun t190 => ((basculeref03_counted.f t190).bind fun t193 => (if y187.length + t193.length < 140737488355328 then (some (y187 ++ t193)) else (none))))) else (none))) else (if a0_0 = 22 then ((basculeref03_lay.f kj1 (([a0_1, a0_5, a0_6] : List Int))).bind fun t202 => (if y131.length + t202.length < 140737488355328 then (some (y131 ++ t202)) else (none))) else ((basculeref03_lay.f kj1 (([a0_1, a0_2, a0_4, (l0_3.length : Int)] : List Int))).bind fun t211 => (if y131.length + t211.length < 140737488355328 then ((some (y131 ++ t211 : List Int)).bind fun y214 => ((basculeref03_lay.f kj1 l0_3).bind fun t217 => ((basculeref03_counted.f t217).bind fun t220 => (if y214.length + t220.length < 140737488355328 then (some (y214 ++ t220)) else (none))))) else (none)))))))) = some r := by rw [if_neg (show ¬ (false = true) by decide)] at H; exact H
    clear H
    have H := H1
    clear H1
    by_cases c21 : a0_0 = 5
    ·rw [if_pos c21] at H
     have c21b0 : (a0_0 == 5) = true := beq_iff_eq.mpr c21
     have c21b1 : (a0_0 != 5) = false := bne_eq_false_iff_eq.mpr c21
     clear c21
     by_cases c22 : 0 < (l0_3.length : Int)
     ·rw [if_pos c22] at H
      have c22b0 : decide (0 < (l0_3.length : Int)) = true := decide_eq_true c22
      have c22b1 : decide (0 < l0_3.length) = true := decide_eq_true (by omega)
      clear c22
      obtain ⟨y144, hy144⟩ : ∃ y_ : List Int, y_ = (([a0_1, wrap64 (65280 * (rd l0_3 0))] : List Int)) := ⟨_, rfl⟩
      replace H : ((basculeref03_lay.f kj1 y144).bind fun t147 => (if y131.length + t147.length < 140737488355328 then (some (y131 ++ t147)) else (none))) = some r := by first | (rw [hy144]; with_reducible exact H) | (have H2_ := (Option.bind_some _ _).symm.trans H; rw [hy144]; with_reducible exact H2_) | (have H2_ := (Option.bind_some _ _).symm.trans H; with_reducible exact H2_) | with_reducible exact H | (rw [hy144]; exact H) | exact H
      have Ny144 := Aside0.mk hy144
      clear hy144
      replace H := Option.bind_eq_some_iff.mp H
      obtain ⟨t147, A230, H⟩ := H
      replace H : (if y131.length + t147.length < 140737488355328 then (some (y131 ++ t147)) else (none)) = some r := H
      have A23 := Aside0.mk A230
      clear A230
      by_cases c24 : y131.length + t147.length < 140737488355328
      ·rw [if_pos c24] at H
       have LMc24 := Aside0.mk c24
       clear c24
       obtain ⟨y150, hy150⟩ : ∃ y_ : List Int, y_ = (y131 ++ t147) := ⟨_, rfl⟩
       replace H : (some y150) = some r := by first | (rw [hy150]; with_reducible exact H) | (have H2_ := (Option.bind_some _ _).symm.trans H; rw [hy150]; with_reducible exact H2_) | (have H2_ := (Option.bind_some _ _).symm.trans H; with_reducible exact H2_) | with_reducible exact H | (rw [hy150]; exact H) | exact H
       have Ny150 := Aside0.mk hy150
       clear hy150
       obtain rfl := Option.some.inj H
       try go_wp2
       have n0_ := Aside0.mk (Kd.R_drew HO_3.out)
       have n1_ := Aside0.mk (blk_drew BK130.out)
       have n2_ := Aside0.mk (below_drew1 HB.out)
       clear HO_3
       clear BK130
       clear HB
       have HO_3 := n0_
       have BK130 := n1_
       have HB := n2_
       clear n0_ n1_ n2_
       have p143 : 0 ≤ (0 : Int) := (by omega)
       have q143 : 0 < (l0_3.length : Int) := of_decide_eq_true (by first | (with_reducible assumption) | assumption)
       obtain ⟨ad143, e143, hx143_0⟩ := Kd.at_int HR0_3.out 0 p143 q143
       have hw143_0 := hx143_0
       (try rw [show ((0 : Int)).toNat = 0 from rfl] at hw143_0)
       (try rw [show 0 * 1 = 0 from rfl] at hw143_0)
       (try rw [Addr.add_zero'] at hw143_0)
       cases e143
       have qi143 : (0 < l0_3.length) = True := eq_true (by omega)
       (try rw [show ((0 : Int)).toNat = 0 from rfl] at hx143_0)
       (try rw [Addr.add_zero'] at hx143_0)
       replace hx143_0 := (HB.out.cell (World.block_lt_of_cell? w _ hx143_0)).trans hx143_0
       replace p143 := eq_true p143
       replace q143 := eq_true q143
       refine start_ (n := 12) (S := fun w' => w'.cell? ⟨gb130, 0, none⟩ = some (.int .i64 a0_0) ∧ w'.cell? ⟨gb130, 1, none⟩ = some (.int .i64 a0_1) ∧ w'.cell? ⟨gb130, 2, none⟩ = some (.int .i64 a0_2) ∧ w'.cell? ⟨gb130, 3, none⟩ = some (.slice (some ad143) l0_3.length c0_3) ∧ w'.cell? ⟨gb130, 4, none⟩ = some (.int .i64 a0_4) ∧ w'.cell? ⟨gb130, 5, none⟩ = some (.int .i64 a0_5) ∧ w'.cell? ⟨gb130, 6, none⟩ = some (.int .i64 a0_6) ∧ w'.cell? ad143 = some (.int .i64 (rd l0_3 0))) (ds := []) #[false, false, false, false, false, false, false, false, false, false, false, false] (by kernel_rfl) rfl rfl ⟨(blk_cell BK130.out 0).trans rfl, (blk_cell BK130.out 1).trans rfl, (blk_cell BK130.out 2).trans rfl, (blk_cell BK130.out 3).trans rfl, (blk_cell BK130.out 4).trans rfl, (blk_cell BK130.out 5).trans rfl, (blk_cell BK130.out 6).trans rfl, ((HB.out.cell (World.block_lt_of_cell? w _ hw143_0)).trans hw143_0)⟩ (fun hHeld => ?_); refine with_tabW basculeref03_Bytes.tab10 basculeref03_Bytes.bits10 (fun HT_ HW_ => ?_)
       generalize wc.drew = w25 at HO_3 BK130 HB hx143_0 hHeld ⊢
       refine pure_ (i := 0) (N := some 26) (v := ?_) (a' := ?_) #[true, false, false, false, false, false, false, false, false, false, false, false] rfl rfl (any_of HT_.out (by kernel_rfl)) (fun _ _ _ h => h) (Or.inl ⟨by rfl, ?_⟩) ?_ ?_
       rotate_left
       ·intro w'
        go_simp
        with_reducible rfl
       rotate_left
       ·simp only [Act.put, List.setIfInBounds_toArray, List.set_cons_zero, List.set_cons_succ, i64_w, i32_w]
        rfl
       refine pure_ (i := 1) (N := some 27) (v := ?_) (a' := ?_) #[true, true, false, false, false, false, false, false, false, false, false, false] rfl rfl (any_of HT_.out (by kernel_rfl)) (fun _ _ _ h => h) (Or.inl ⟨by rfl, ?_⟩) ?_ ?_
       rotate_left
       ·intro w'
        go_simp
        with_reducible rfl
       rotate_left
       ·simp only [Act.put, List.setIfInBounds_toArray, List.set_cons_zero, List.set_cons_succ, i64_w, i32_w]
        rfl
       refine pure_ (i := 3) (N := some 29) (v := ?_) (a' := ?_) #[true, true, false, true, false, false, false, false, false, false, false, false] rfl rfl (any_of HT_.out (by kernel_rfl)) (fun _ _ _ h => h) (Or.inl ⟨by rfl, ?_⟩) ?_ ?_
       rotate_left
       ·intro w'
        go_simp
        with_reducible rfl
       rotate_left
       ·simp only [Act.put, List.setIfInBounds_toArray, List.set_cons_zero, List.set_cons_succ, i64_w, i32_w]
        rfl
       refine take_ (i := 2) (N := some 28) (v := ?_) (a' := ?_) #[true, true, true, true, false, false, false, false, false, false, false, false] rfl rfl (take_ofW HT_.out HW_.out (by kernel_rfl)) (fun _ _ _ h => h) (Or.inl ⟨by rfl, ?_⟩) hHeld ?_ ?_
       rotate_left
       ·rintro w' ⟨s0, s1, s2, s3, s4, s5, s6, s7⟩
        go_simp
        with_reducible rfl
       rotate_left
       ·simp only [Act.put, List.setIfInBounds_toArray, List.set_cons_zero, List.set_cons_succ, i64_w, i32_w]
        rfl
       refine take_ (i := 4) (N := some 30) (v := ?_) (a' := ?_) #[true, true, true, true, true, false, false, false, false, false, false, false] rfl rfl (take_ofW HT_.out HW_.out (by kernel_rfl)) (fun _ _ _ h => h) (Or.inl ⟨by rfl, ?_⟩) hHeld ?_ ?_
       rotate_left
       ·rintro w' ⟨s0, s1, s2, s3, s4, s5, s6, s7⟩
        go_simp
        with_reducible rfl
       rotate_left
       ·simp only [Act.put, List.setIfInBounds_toArray, List.set_cons_zero, List.set_cons_succ, i64_w, i32_w]
        rfl
       refine pure_ (i := 5) (N := some 31) (v := ?_) (a' := ?_) #[true, true, true, true, true, true, false, false, false, false, false, false] rfl rfl (any_of HT_.out (by kernel_rfl)) (fun _ _ _ h => h) (Or.inl ⟨by rfl, ?_⟩) ?_ ?_
       rotate_left
       ·intro w'
        go_simp
        with_reducible rfl
       rotate_left
       ·simp only [Act.put, List.setIfInBounds_toArray, List.set_cons_zero, List.set_cons_succ, i64_w, i32_w]
        rfl
       refine take_ (i := 6) (N := some 32) (v := ?_) (a' := ?_) #[true, true, true, true, true, true, true, false, false, false, false, false] rfl rfl (take_ofW HT_.out HW_.out (by kernel_rfl)) (fun _ _ _ h => h) (Or.inl ⟨by rfl, ?_⟩) hHeld ?_ ?_
       rotate_left
       ·rintro w' ⟨s0, s1, s2, s3, s4, s5, s6, s7⟩
        go_simp
        with_reducible rfl
       rotate_left
       ·simp only [Act.put, List.setIfInBounds_toArray, List.set_cons_zero, List.set_cons_succ, i64_w, i32_w]
        rfl
       refine pure_ (i := 7) (N := some 33) (v := ?_) (a' := ?_) #[true, true, true, true, true, true, true, true, false, false, false, false] rfl rfl (any_of HT_.out (by kernel_rfl)) (fun _ _ _ h => h) (Or.inl ⟨by rfl, ?_⟩) ?_ ?_
       rotate_left
       ·intro w'
        go_simp
        with_reducible rfl
       rotate_left
       ·simp only [Act.put, List.setIfInBounds_toArray, List.set_cons_zero, List.set_cons_succ, i64_w, i32_w]
        rfl
       refine one_ (i := 8) (N := some 34) #[true, true, true, true, true, true, true, true, true, false, false, false] rfl rfl (one_of HT_.out (by kernel_rfl)) (by decide) (fun K hK => ?_)
       refine Kd.R_lit_step (Kd.int .i64) _ 3 ?hg (N := 34) ?hd (xs := ([a0_1, wrap64 (65280 * (rd l0_3 0))] : List Int)) (inner := [.int .i64 a0_1, .int .i64 (wrap64 (65280 * (rd l0_3 0)))]) (ok := fun _ => True) (okp := fun _ => True) ?hr ?hp (fun _ hk => hk) trivial (Below.refl _ _) (Nat.le_refl _) (by simp) ?_; (case hd => rfl); (case hg => rfl); (case hr => first | (go_simp; done) | (go_simp; rfl)); (case hp => exact (Reps.one (show Kd.M (Kd.int .i64) _ _ _ a0_1 [.int .i64 a0_1] from rfl) (Reps.one (show Kd.M (Kd.int .i64) _ _ _ (wrap64 (65280 * (rd l0_3 0))) [.int .i64 (wrap64 (65280 * (rd l0_3 0)))] from rfl) (Reps.none _ _))))
       intro v145 w26 ho27 hb hg_ hnew_
       clear hg_ hnew_
       (first | rw [← Ny144.out] at ho27 | (simp only [Int.reduceToNat] at ho27; rw [← Ny144.out] at ho27))
       have n0_ := Aside0.mk (Kd.R_below (kr_ HO_3) hb)
       have n1_ := Aside0.mk (Kd.R_lower ho27 (below_size (bl1_ HB GE130)))
       have n2_ := Aside0.mk (blk_below (g := gb130) (bk_ BK130) hb)
       have n3_ := Aside0.mk (below_step (bl1_ HB GE130) hb)
       clear HO_3
       clear BK130
       clear HB
       have HO_3 := n0_
       have HO146 := n1_
       have BK130 := n2_
       have HB := n3_
       clear n0_ n1_ n2_ n3_
       clear hb ho27
       obtain ⟨Ao28, co28, eo28⟩ := Kd.R_slice HO146.out
       (first | subst eo28 | (injection eo28 with f1_ f2_ f3_; have f4_ := f1_.symm; have f5_ := f3_.symm; clear f1_ f2_ f3_; subst f4_; subst f5_))
       refine hK.out _ _ ⟨(blk_cell BK130.out 0).trans rfl, (blk_cell BK130.out 1).trans rfl, (blk_cell BK130.out 2).trans rfl, (blk_cell BK130.out 3).trans rfl, (blk_cell BK130.out 4).trans rfl, (blk_cell BK130.out 5).trans rfl, (blk_cell BK130.out 6).trans rfl, ((HB.out.cell (World.block_lt_of_cell? w _ hw143_0)).trans hw143_0)⟩ (fun hHeld => ?_)
       clear hK K
       refine norm_ (a' := ?_) ?_ ?_
       rotate_left
       ·show Act.put _ (some 34) _ = _
        simp only [Act.put, List.setIfInBounds_toArray, List.set_cons_zero, List.set_cons_succ, i64_w, i32_w]
        rfl
       refine one_ (i := 9) (N := some 35) #[true, true, true, true, true, true, true, true, true, true, false, false] rfl rfl (one_of HT_.out (by kernel_rfl)) (by decide) (fun K hK => ?_)
       refine goes_ Try.func56 (by kernel_rfl) rfl #[.slice Ao28 y144.length co28] (by rfl) rfl rfl ar_ ?_
       with_reducible refine (basculeref03_lay.calls kj1 _ _ y144 t147 _ ?side1 ?side2 A23.out).mono ?_
       (case side1 => exact sc_ (Kd.R_reads' HO146.out).2.2)
       (case side2 => exact (Kd.R_reads' HO146.out).2.1)
       rintro e w29 ⟨v148, rfl, ho0, hb⟩
       refine ⟨_, rfl, ?_⟩
       have n0_ := Aside0.mk (Kd.R_elder' (kr_ HO_3) (Kd.R_base ho0) hb)
       have n1_ := Aside0.mk (Kd.R_below (kr_ HO146) hb)
       have n2_ := Aside0.mk (Kd.R_lower (Kd.R_new' ho0 (Kd.R_lt (kr_ HO_3))) (below_size (bl1_ HB GE130)))
       have n3_ := Aside0.mk (blk_below (g := gb130) (bk_ BK130) hb)
       have n4_ := Aside0.mk (below_step (bl1_ HB GE130) hb)
       clear HO_3
       clear HO146
       clear BK130
       clear HB
       have HO_3 := n0_
       have HO146 := n1_
       have HO149 := n2_
       have BK130 := n3_
       have HB := n4_
       clear n0_ n1_ n2_ n3_ n4_
       (try clear hb)
       (try clear hb2)
       (try clear hk)
       (try clear hi)
       (try clear ho0)
       obtain ⟨Ao31, co31, eo31⟩ := Kd.R_slice HO149.out
       (first | subst eo31 | (injection eo31 with f1_ f2_ f3_; have f4_ := f1_.symm; have f5_ := f3_.symm; clear f1_ f2_ f3_; subst f4_; subst f5_))
       refine hK.out _ _ ⟨(blk_cell BK130.out 0).trans rfl, (blk_cell BK130.out 1).trans rfl, (blk_cell BK130.out 2).trans rfl, (blk_cell BK130.out 3).trans rfl, (blk_cell BK130.out 4).trans rfl, (blk_cell BK130.out 5).trans rfl, (blk_cell BK130.out 6).trans rfl, ((HB.out.cell (World.block_lt_of_cell? w _ hw143_0)).trans hw143_0)⟩ (fun hHeld => ?_)
       clear hK K
       refine norm_ (a' := ?_) ?_ ?_
       rotate_left
       ·show Act.put _ (some 35) _ = _
        simp only [Act.put, List.setIfInBounds_toArray, List.set_cons_zero, List.set_cons_succ, i64_w, i32_w]
        rfl
       refine one_ (i := 10) (N := some 36) #[true, true, true, true, true, true, true, true, true, true, true, false] rfl rfl (one_of HT_.out (by kernel_rfl)) (by decide) (fun K hK => ?_)
       refine Kd.R_append_rows_step (Kd.int .u8) (w0 := w) w.heap.size (by rfl) (.tmp 26) (.tmp 35) 58 5 (.int .u8 0) 1 rfl Try.underlying58 info5 rfl (by decide) (by omega) v132 y131 t147 _ _ _ (fun k_ => some k_ ≠ (.slice Ao31 t147.length co31 : Value).ownBlock) (fun _ => False) rfl rfl ?aO ?aR (fun _ _ h => h) (fun _ h => h.elim) ?aF ?aB ?aS ?aL ?_
       (case aR => exact sc_ (Kd.R_reads' HO149.out).2.2)
       (case aB => exact (bl1_ HB GE130))
       (case aF => exact (fun k_ hk => Kd.fresh' (Kd.R_lt (kr_ HO149)) k_ hk))
       (case aO => exact (by (with_reducible repeat (first | apply Kd.R_alloc | apply Kd.R_drewN | apply Kd.R_drew)); exact Kd.R_mono HO_3.out (fun _ hk => hk.2)))
       (case aS => exact (below_size (bl1_ HB GE130)))
       (case aL => have := LMc24.out; omega)
       intro v151 w30 ho hb hg hat
       rw [← Ny150.out] at ho
       have n0_ := Aside0.mk (blk_grown (g := gb130) (bk_ BK130) hg (Kd.R_ne HO_3.out BK130.out (by decide)))
       have n1_ := Aside0.mk (Kd.R_over' (kr_ HO146) (Kd.R_typed (kr_ HO_3)) (by decide) hg)
       have n2_ := Aside0.mk (Kd.R_after (ok := (fun _ => True)) (kr_ HO149) hg hat)
       have n3_ := Aside0.mk (hb)
       have n4_ := Aside0.mk (ho)
       clear BK130
       clear HO146
       clear HO149
       clear HB
       clear HO_3
       have BK130 := n0_
       have HO146 := n1_
       have HO149 := n2_
       have HB := n3_
       have HO152 := n4_
       clear n0_ n1_ n2_ n3_ n4_
       clear ho hb hg hat
       refine hK.out _ _ ⟨(blk_cell BK130.out 0).trans rfl, (blk_cell BK130.out 1).trans rfl, (blk_cell BK130.out 2).trans rfl, (blk_cell BK130.out 3).trans rfl, (blk_cell BK130.out 4).trans rfl, (blk_cell BK130.out 5).trans rfl, (blk_cell BK130.out 6).trans rfl, ((HB.out.cell (World.block_lt_of_cell? w _ hw143_0)).trans hw143_0)⟩ (fun hHeld => ?_)
       clear hK K
       refine norm_ (a' := ?_) ?_ ?_
       rotate_left
       ·show Act.put _ (some 36) _ = _
        simp only [Act.put, List.setIfInBounds_toArray, List.set_cons_zero, List.set_cons_succ, i64_w, i32_w]
        rfl
       refine pure_ (i := 11) (N := some 3) (v := ?_) (a' := ?_) #[true, true, true, true, true, true, true, true, true, true, true, true] rfl rfl (any_of HT_.out (by kernel_rfl)) (fun _ _ _ h => h) (Or.inl ⟨by rfl, ?_⟩) ?_ ?_
       rotate_left
       ·intro w'
        go_simp
        with_reducible rfl
       rotate_left
       ·simp only [Act.put, List.setIfInBounds_toArray, List.set_cons_zero, List.set_cons_succ, i64_w, i32_w]
        rfl
       refine done_ (done_of HT_.out (by kernel_rfl)) ?_
       try go_wp2
       go_ret
       exact ⟨_, er_, by (with_reducible repeat (first | apply Kd.R_alloc | apply Kd.R_drewN | apply Kd.R_drew)); exact Kd.R_mono HO152.out (fun _ hk => trivial), bl1_ HB GE130⟩
      ·rw [if_neg c24] at H
       exact absurd H (by simp)
     ·rw [if_neg c22] at H
      exact absurd H (by simp)
    ·rw [if_neg c21] at H
     have c21b0 : (a0_0 == 5) = false := beq_eq_false_iff_ne.mpr c21
     have c21b1 : (a0_0 != 5) = true := bne_iff_ne.mpr c21
     by_cases c32 : a0_0 = 6
     ·rw [if_pos c32] at H
      have c32b0 : (a0_0 == 6) = true := beq_iff_eq.mpr c32
      have c32b1 : (a0_0 != 6) = false := bne_eq_false_iff_eq.mpr c32
      clear c32
      by_cases c33 : 0 < (l0_3.length : Int)
      ·rw [if_pos c33] at H
       have c33b0 : decide (0 < (l0_3.length : Int)) = true := decide_eq_true c33
       have c33b1 : decide (0 < l0_3.length) = true := decide_eq_true (by omega)
       clear c33
       obtain ⟨y154, hy154⟩ : ∃ y_ : List Int, y_ = (([a0_1, rd l0_3 0] : List Int)) := ⟨_, rfl⟩
       replace H : ((basculeref03_lay.f kj1 y154).bind fun t157 => (if y131.length + t157.length < 140737488355328 then (some (y131 ++ t157)) else (none))) = some r := by first | (rw [hy154]; with_reducible exact H) | (have H2_ := (Option.bind_some _ _).symm.trans H; rw [hy154]; with_reducible exact H2_) | (have H2_ := (Option.bind_some _ _).symm.trans H; with_reducible exact H2_) | with_reducible exact H | (rw [hy154]; exact H) | exact H
       have Ny154 := Aside0.mk hy154
       clear hy154
       replace H := Option.bind_eq_some_iff.mp H
       obtain ⟨t157, A340, H⟩ := H
       replace H : (if y131.length + t157.length < 140737488355328 then (some (y131 ++ t157)) else (none)) = some r := H
       have A34 := Aside0.mk A340
       clear A340
       by_cases c35 : y131.length + t157.length < 140737488355328
       ·rw [if_pos c35] at H
        have LMc35 := Aside0.mk c35
        clear c35
        obtain ⟨y160, hy160⟩ : ∃ y_ : List Int, y_ = (y131 ++ t157) := ⟨_, rfl⟩
        replace H : (some y160) = some r := by first | (rw [hy160]; with_reducible exact H) | (have H2_ := (Option.bind_some _ _).symm.trans H; rw [hy160]; with_reducible exact H2_) | (have H2_ := (Option.bind_some _ _).symm.trans H; with_reducible exact H2_) | with_reducible exact H | (rw [hy160]; exact H) | exact H
        have Ny160 := Aside0.mk hy160
        clear hy160
        obtain rfl := Option.some.inj H
        try go_wp2
        have n0_ := Aside0.mk (Kd.R_drew HO_3.out)
        have n1_ := Aside0.mk (blk_drew BK130.out)
        have n2_ := Aside0.mk (below_drew1 HB.out)
        clear HO_3
        clear BK130
        clear HB
        have HO_3 := n0_
        have BK130 := n1_
        have HB := n2_
        clear n0_ n1_ n2_
        have p153 : 0 ≤ (0 : Int) := (by omega)
        have q153 : 0 < (l0_3.length : Int) := of_decide_eq_true (by first | (with_reducible assumption) | assumption)
        obtain ⟨ad153, e153, hx153_0⟩ := Kd.at_int HR0_3.out 0 p153 q153
        have hw153_0 := hx153_0
        (try rw [show ((0 : Int)).toNat = 0 from rfl] at hw153_0)
        (try rw [show 0 * 1 = 0 from rfl] at hw153_0)
        (try rw [Addr.add_zero'] at hw153_0)
        cases e153
        have qi153 : (0 < l0_3.length) = True := eq_true (by omega)
        (try rw [show ((0 : Int)).toNat = 0 from rfl] at hx153_0)
        (try rw [Addr.add_zero'] at hx153_0)
        replace hx153_0 := (HB.out.cell (World.block_lt_of_cell? w _ hx153_0)).trans hx153_0
        replace p153 := eq_true p153
        replace q153 := eq_true q153
        refine start_ (n := 11) (S := fun w' => w'.cell? ⟨gb130, 0, none⟩ = some (.int .i64 a0_0) ∧ w'.cell? ⟨gb130, 1, none⟩ = some (.int .i64 a0_1) ∧ w'.cell? ⟨gb130, 2, none⟩ = some (.int .i64 a0_2) ∧ w'.cell? ⟨gb130, 3, none⟩ = some (.slice (some ad153) l0_3.length c0_3) ∧ w'.cell? ⟨gb130, 4, none⟩ = some (.int .i64 a0_4) ∧ w'.cell? ⟨gb130, 5, none⟩ = some (.int .i64 a0_5) ∧ w'.cell? ⟨gb130, 6, none⟩ = some (.int .i64 a0_6) ∧ w'.cell? ad153 = some (.int .i64 (rd l0_3 0))) (ds := []) #[false, false, false, false, false, false, false, false, false, false, false] (by kernel_rfl) rfl rfl ⟨(blk_cell BK130.out 0).trans rfl, (blk_cell BK130.out 1).trans rfl, (blk_cell BK130.out 2).trans rfl, (blk_cell BK130.out 3).trans rfl, (blk_cell BK130.out 4).trans rfl, (blk_cell BK130.out 5).trans rfl, (blk_cell BK130.out 6).trans rfl, ((HB.out.cell (World.block_lt_of_cell? w _ hw153_0)).trans hw153_0)⟩ (fun hHeld => ?_); refine with_tabW basculeref03_Bytes.tab13 basculeref03_Bytes.bits13 (fun HT_ HW_ => ?_)
        generalize wc.drew = w36 at HO_3 BK130 HB hx153_0 hHeld ⊢
        refine pure_ (i := 0) (N := some 40) (v := ?_) (a' := ?_) #[true, false, false, false, false, false, false, false, false, false, false] rfl rfl (any_of HT_.out (by kernel_rfl)) (fun _ _ _ h => h) (Or.inl ⟨by rfl, ?_⟩) ?_ ?_
        rotate_left
        ·intro w'
         go_simp
         with_reducible rfl
        rotate_left
        ·simp only [Act.put, List.setIfInBounds_toArray, List.set_cons_zero, List.set_cons_succ, i64_w, i32_w]
         rfl
        refine pure_ (i := 1) (N := some 41) (v := ?_) (a' := ?_) #[true, true, false, false, false, false, false, false, false, false, false] rfl rfl (any_of HT_.out (by kernel_rfl)) (fun _ _ _ h => h) (Or.inl ⟨by rfl, ?_⟩) ?_ ?_
        rotate_left
        ·intro w'
         go_simp
         with_reducible rfl
        rotate_left
        ·simp only [Act.put, List.setIfInBounds_toArray, List.set_cons_zero, List.set_cons_succ, i64_w, i32_w]
         rfl
        refine pure_ (i := 3) (N := some 43) (v := ?_) (a' := ?_) #[true, true, false, true, false, false, false, false, false, false, false] rfl rfl (any_of HT_.out (by kernel_rfl)) (fun _ _ _ h => h) (Or.inl ⟨by rfl, ?_⟩) ?_ ?_
        rotate_left
        ·intro w'
         go_simp
         with_reducible rfl
        rotate_left
        ·simp only [Act.put, List.setIfInBounds_toArray, List.set_cons_zero, List.set_cons_succ, i64_w, i32_w]
         rfl
        refine take_ (i := 2) (N := some 42) (v := ?_) (a' := ?_) #[true, true, true, true, false, false, false, false, false, false, false] rfl rfl (take_ofW HT_.out HW_.out (by kernel_rfl)) (fun _ _ _ h => h) (Or.inl ⟨by rfl, ?_⟩) hHeld ?_ ?_
        rotate_left
        ·rintro w' ⟨s0, s1, s2, s3, s4, s5, s6, s7⟩
         go_simp
         with_reducible rfl
        rotate_left
        ·simp only [Act.put, List.setIfInBounds_toArray, List.set_cons_zero, List.set_cons_succ, i64_w, i32_w]
         rfl
        refine take_ (i := 4) (N := some 44) (v := ?_) (a' := ?_) #[true, true, true, true, true, false, false, false, false, false, false] rfl rfl (take_ofW HT_.out HW_.out (by kernel_rfl)) (fun _ _ _ h => h) (Or.inl ⟨by rfl, ?_⟩) hHeld ?_ ?_
        rotate_left
        ·rintro w' ⟨s0, s1, s2, s3, s4, s5, s6, s7⟩
         go_simp
         with_reducible rfl
        rotate_left
        ·simp only [Act.put, List.setIfInBounds_toArray, List.set_cons_zero, List.set_cons_succ, i64_w, i32_w]
         rfl
        refine pure_ (i := 5) (N := some 45) (v := ?_) (a' := ?_) #[true, true, true, true, true, true, false, false, false, false, false] rfl rfl (any_of HT_.out (by kernel_rfl)) (fun _ _ _ h => h) (Or.inl ⟨by rfl, ?_⟩) ?_ ?_
        rotate_left
        ·intro w'
         go_simp
         with_reducible rfl
        rotate_left
        ·simp only [Act.put, List.setIfInBounds_toArray, List.set_cons_zero, List.set_cons_succ, i64_w, i32_w]
         rfl
        refine take_ (i := 6) (N := some 46) (v := ?_) (a' := ?_) #[true, true, true, true, true, true, true, false, false, false, false] rfl rfl (take_ofW HT_.out HW_.out (by kernel_rfl)) (fun _ _ _ h => h) (Or.inl ⟨by rfl, ?_⟩) hHeld ?_ ?_
        rotate_left
        ·rintro w' ⟨s0, s1, s2, s3, s4, s5, s6, s7⟩
         go_simp
         with_reducible rfl
        rotate_left
        ·simp only [Act.put, List.setIfInBounds_toArray, List.set_cons_zero, List.set_cons_succ, i64_w, i32_w]
         rfl
        refine one_ (i := 7) (N := some 47) #[true, true, true, true, true, true, true, true, false, false, false] rfl rfl (one_of HT_.out (by kernel_rfl)) (by decide) (fun K hK => ?_)
        refine Kd.R_lit_step (Kd.int .i64) _ 3 ?hg (N := 47) ?hd (xs := ([a0_1, rd l0_3 0] : List Int)) (inner := [.int .i64 a0_1, .int .i64 (rd l0_3 0)]) (ok := fun _ => True) (okp := fun _ => True) ?hr ?hp (fun _ hk => hk) trivial (Below.refl _ _) (Nat.le_refl _) (by simp) ?_; (case hd => rfl); (case hg => rfl); (case hr => first | (go_simp; done) | (go_simp; rfl)); (case hp => exact (Reps.one (show Kd.M (Kd.int .i64) _ _ _ a0_1 [.int .i64 a0_1] from rfl) (Reps.one (show Kd.M (Kd.int .i64) _ _ _ (rd l0_3 0) [.int .i64 (rd l0_3 0)] from rfl) (Reps.none _ _))))
        intro v155 w37 ho38 hb hg_ hnew_
        clear hg_ hnew_
        (first | rw [← Ny154.out] at ho38 | (simp only [Int.reduceToNat] at ho38; rw [← Ny154.out] at ho38))
        have n0_ := Aside0.mk (Kd.R_below (kr_ HO_3) hb)
        have n1_ := Aside0.mk (Kd.R_lower ho38 (below_size (bl1_ HB GE130)))
        have n2_ := Aside0.mk (blk_below (g := gb130) (bk_ BK130) hb)
        have n3_ := Aside0.mk (below_step (bl1_ HB GE130) hb)
        clear HO_3
        clear BK130
        clear HB
        have HO_3 := n0_
        have HO156 := n1_
        have BK130 := n2_
        have HB := n3_
        clear n0_ n1_ n2_ n3_
        clear hb ho38
        obtain ⟨Ao39, co39, eo39⟩ := Kd.R_slice HO156.out
        (first | subst eo39 | (injection eo39 with f1_ f2_ f3_; have f4_ := f1_.symm; have f5_ := f3_.symm; clear f1_ f2_ f3_; subst f4_; subst f5_))
        refine hK.out _ _ ⟨(blk_cell BK130.out 0).trans rfl, (blk_cell BK130.out 1).trans rfl, (blk_cell BK130.out 2).trans rfl, (blk_cell BK130.out 3).trans rfl, (blk_cell BK130.out 4).trans rfl, (blk_cell BK130.out 5).trans rfl, (blk_cell BK130.out 6).trans rfl, ((HB.out.cell (World.block_lt_of_cell? w _ hw153_0)).trans hw153_0)⟩ (fun hHeld => ?_)
        clear hK K
        refine norm_ (a' := ?_) ?_ ?_
        rotate_left
        ·show Act.put _ (some 47) _ = _
         simp only [Act.put, List.setIfInBounds_toArray, List.set_cons_zero, List.set_cons_succ, i64_w, i32_w]
         rfl
        refine one_ (i := 8) (N := some 48) #[true, true, true, true, true, true, true, true, true, false, false] rfl rfl (one_of HT_.out (by kernel_rfl)) (by decide) (fun K hK => ?_)
        refine goes_ Try.func56 (by kernel_rfl) rfl #[.slice Ao39 y154.length co39] (by rfl) rfl rfl ar_ ?_
        with_reducible refine (basculeref03_lay.calls kj1 _ _ y154 t157 _ ?side1 ?side2 A34.out).mono ?_
        (case side1 => exact sc_ (Kd.R_reads' HO156.out).2.2)
        (case side2 => exact (Kd.R_reads' HO156.out).2.1)
        rintro e w40 ⟨v158, rfl, ho0, hb⟩
        refine ⟨_, rfl, ?_⟩
        have n0_ := Aside0.mk (Kd.R_elder' (kr_ HO_3) (Kd.R_base ho0) hb)
        have n1_ := Aside0.mk (Kd.R_below (kr_ HO156) hb)
        have n2_ := Aside0.mk (Kd.R_lower (Kd.R_new' ho0 (Kd.R_lt (kr_ HO_3))) (below_size (bl1_ HB GE130)))
        have n3_ := Aside0.mk (blk_below (g := gb130) (bk_ BK130) hb)
        have n4_ := Aside0.mk (below_step (bl1_ HB GE130) hb)
        clear HO_3
        clear HO156
        clear BK130
        clear HB
        have HO_3 := n0_
        have HO156 := n1_
        have HO159 := n2_
        have BK130 := n3_
        have HB := n4_
        clear n0_ n1_ n2_ n3_ n4_
        (try clear hb)
        (try clear hb2)
        (try clear hk)
        (try clear hi)
        (try clear ho0)
        obtain ⟨Ao42, co42, eo42⟩ := Kd.R_slice HO159.out
        (first | subst eo42 | (injection eo42 with f1_ f2_ f3_; have f4_ := f1_.symm; have f5_ := f3_.symm; clear f1_ f2_ f3_; subst f4_; subst f5_))
        refine hK.out _ _ ⟨(blk_cell BK130.out 0).trans rfl, (blk_cell BK130.out 1).trans rfl, (blk_cell BK130.out 2).trans rfl, (blk_cell BK130.out 3).trans rfl, (blk_cell BK130.out 4).trans rfl, (blk_cell BK130.out 5).trans rfl, (blk_cell BK130.out 6).trans rfl, ((HB.out.cell (World.block_lt_of_cell? w _ hw153_0)).trans hw153_0)⟩ (fun hHeld => ?_)
        clear hK K
        refine norm_ (a' := ?_) ?_ ?_
        rotate_left
        ·show Act.put _ (some 48) _ = _
         simp only [Act.put, List.setIfInBounds_toArray, List.set_cons_zero, List.set_cons_succ, i64_w, i32_w]
         rfl
        refine one_ (i := 9) (N := some 49) #[true, true, true, true, true, true, true, true, true, true, false] rfl rfl (one_of HT_.out (by kernel_rfl)) (by decide) (fun K hK => ?_)
        refine Kd.R_append_rows_step (Kd.int .u8) (w0 := w) w.heap.size (by rfl) (.tmp 40) (.tmp 48) 58 5 (.int .u8 0) 1 rfl Try.underlying58 info5 rfl (by decide) (by omega) v132 y131 t157 _ _ _ (fun k_ => some k_ ≠ (.slice Ao42 t157.length co42 : Value).ownBlock) (fun _ => False) rfl rfl ?aO ?aR (fun _ _ h => h) (fun _ h => h.elim) ?aF ?aB ?aS ?aL ?_
        (case aR => exact sc_ (Kd.R_reads' HO159.out).2.2)
        (case aB => exact (bl1_ HB GE130))
        (case aF => exact (fun k_ hk => Kd.fresh' (Kd.R_lt (kr_ HO159)) k_ hk))
        (case aO => exact (by (with_reducible repeat (first | apply Kd.R_alloc | apply Kd.R_drewN | apply Kd.R_drew)); exact Kd.R_mono HO_3.out (fun _ hk => hk.2)))
        (case aS => exact (below_size (bl1_ HB GE130)))
        (case aL => have := LMc35.out; omega)
        intro v161 w41 ho hb hg hat
        rw [← Ny160.out] at ho
        have n0_ := Aside0.mk (blk_grown (g := gb130) (bk_ BK130) hg (Kd.R_ne HO_3.out BK130.out (by decide)))
        have n1_ := Aside0.mk (Kd.R_over' (kr_ HO156) (Kd.R_typed (kr_ HO_3)) (by decide) hg)
        have n2_ := Aside0.mk (Kd.R_after (ok := (fun _ => True)) (kr_ HO159) hg hat)
        have n3_ := Aside0.mk (hb)
        have n4_ := Aside0.mk (ho)
        clear BK130
        clear HO156
        clear HO159
        clear HB
        clear HO_3
        have BK130 := n0_
        have HO156 := n1_
        have HO159 := n2_
        have HB := n3_
        have HO162 := n4_
        clear n0_ n1_ n2_ n3_ n4_
        clear ho hb hg hat
        refine hK.out _ _ ⟨(blk_cell BK130.out 0).trans rfl, (blk_cell BK130.out 1).trans rfl, (blk_cell BK130.out 2).trans rfl, (blk_cell BK130.out 3).trans rfl, (blk_cell BK130.out 4).trans rfl, (blk_cell BK130.out 5).trans rfl, (blk_cell BK130.out 6).trans rfl, ((HB.out.cell (World.block_lt_of_cell? w _ hw153_0)).trans hw153_0)⟩ (fun hHeld => ?_)
        clear hK K
        refine norm_ (a' := ?_) ?_ ?_
        rotate_left
        ·show Act.put _ (some 49) _ = _
         simp only [Act.put, List.setIfInBounds_toArray, List.set_cons_zero, List.set_cons_succ, i64_w, i32_w]
         rfl
        refine pure_ (i := 10) (N := some 3) (v := ?_) (a' := ?_) #[true, true, true, true, true, true, true, true, true, true, true] rfl rfl (any_of HT_.out (by kernel_rfl)) (fun _ _ _ h => h) (Or.inl ⟨by rfl, ?_⟩) ?_ ?_
        rotate_left
        ·intro w'
         go_simp
         with_reducible rfl
        rotate_left
        ·simp only [Act.put, List.setIfInBounds_toArray, List.set_cons_zero, List.set_cons_succ, i64_w, i32_w]
         rfl
        refine done_ (done_of HT_.out (by kernel_rfl)) ?_
        try go_wp2
        go_ret
        exact ⟨_, er_, by (with_reducible repeat (first | apply Kd.R_alloc | apply Kd.R_drewN | apply Kd.R_drew)); exact Kd.R_mono HO162.out (fun _ hk => trivial), bl1_ HB GE130⟩
       ·rw [if_neg c35] at H
        exact absurd H (by simp)
      ·rw [if_neg c33] at H
       exact absurd H (by simp)
     ·rw [if_neg c32] at H
      have c32b0 : (a0_0 == 6) = false := beq_eq_false_iff_ne.mpr c32
      have c32b1 : (a0_0 != 6) = true := bne_iff_ne.mpr c32
      by_cases c43 : a0_0 = 15
      ·rw [if_pos c43] at H
       have c43b0 : (a0_0 == 15) = true := beq_iff_eq.mpr c43
       have c43b1 : (a0_0 != 15) = false := bne_eq_false_iff_eq.mpr c43
       clear c43
       obtain ⟨y163, hy163⟩ : ∃ y_ : List Int, y_ = (([a0_1, a0_2] : List Int)) := ⟨_, rfl⟩
       replace H : ((basculeref03_lay.f kj1 y163).bind fun t166 => (if y131.length + t166.length < 140737488355328 then ((some (y131 ++ t166 : List Int)).bind fun y169 => ((basculeref01_Pack.f kj1 l0_3).bind fun t172 => ((basculeref03_counted.f t172).bind fun t175 => (if y169.length + t175.length < 140737488355328 then (some (y169 ++ t175)) else (none))))) else (none))) = some r := by first | (rw [hy163]; with_reducible exact H) | (have H2_ := (Option.bind_some _ _).symm.trans H; rw [hy163]; with_reducible exact H2_) | (have H2_ := (Option.bind_some _ _).symm.trans H; with_reducible exact H2_) | with_reducible exact H | (rw [hy163]; exact H) | exact H
       have Ny163 := Aside0.mk hy163
       clear hy163
       replace H := Option.bind_eq_some_iff.mp H
       obtain ⟨t166, A440, H⟩ := H
       replace H : (if y131.length + t166.length < 140737488355328 then ((some (y131 ++ t166 : List Int)).bind fun y169 => ((basculeref01_Pack.f kj1 l0_3).bind fun t172 => ((basculeref03_counted.f t172).bind fun t175 => (if y169.length + t175.length < 140737488355328 then (some (y169 ++ t175)) else (none))))) else (none)) = some r := H
       have A44 := Aside0.mk A440
       clear A440
       by_cases c45 : y131.length + t166.length < 140737488355328
       ·rw [if_pos c45] at H
        have LMc45 := Aside0.mk c45
        clear c45
        obtain ⟨y169, hy169⟩ : ∃ y_ : List Int, y_ = (y131 ++ t166) := ⟨_, rfl⟩
        replace H : ((basculeref01_Pack.f kj1 l0_3).bind fun t172 => ((basculeref03_counted.f t172).bind fun t175 => (if y169.length + t175.length < 140737488355328 then (some (y169 ++ t175)) else (none)))) = some r := by first | (rw [hy169]; with_reducible exact H) | (have H2_ := (Option.bind_some _ _).symm.trans H; rw [hy169]; with_reducible exact H2_) | (have H2_ := (Option.bind_some _ _).symm.trans H; with_reducible exact H2_) | with_reducible exact H | (rw [hy169]; exact H) | exact H
        have Ny169 := Aside0.mk hy169
        clear hy169
        replace H := Option.bind_eq_some_iff.mp H
        obtain ⟨t172, A460, H⟩ := H
        replace H : ((basculeref03_counted.f t172).bind fun t175 => (if y169.length + t175.length < 140737488355328 then (some (y169 ++ t175)) else (none))) = some r := H
        have A46 := Aside0.mk A460
        clear A460
        replace H := Option.bind_eq_some_iff.mp H
        obtain ⟨t175, A470, H⟩ := H
        replace H : (if y169.length + t175.length < 140737488355328 then (some (y169 ++ t175)) else (none)) = some r := H
        have A47 := Aside0.mk A470
        clear A470
        by_cases c48 : y169.length + t175.length < 140737488355328
        ·rw [if_pos c48] at H
         have LMc48 := Aside0.mk c48
         clear c48
         obtain ⟨y178, hy178⟩ : ∃ y_ : List Int, y_ = (y169 ++ t175) := ⟨_, rfl⟩
         replace H : (some y178) = some r := by first | (rw [hy178]; with_reducible exact H) | (have H2_ := (Option.bind_some _ _).symm.trans H; rw [hy178]; with_reducible exact H2_) | (have H2_ := (Option.bind_some _ _).symm.trans H; with_reducible exact H2_) | with_reducible exact H | (rw [hy178]; exact H) | exact H
         have Ny178 := Aside0.mk hy178
         clear hy178
         obtain rfl := Option.some.inj H
         refine cz7_ BK130.out ?_; intro hcz49_0 hcz49_1 hcz49_2 hcz49_3 hcz49_4 hcz49_5 hcz49_6 hfz49_0 hfz49_1 hfz49_2 hfz49_3 hfz49_4 hfz49_5 hfz49_6
         go_wp2_with (first | ((with_reducible refine gate_dst (N := 58) rfl ?_); refine Kd.R_lit (Kd.int .i64) _ 3 ?hg (N := 58) ?hd (xs := ([a0_1, a0_2] : List Int)) (inner := [.int .i64 a0_1, .int .i64 a0_2]) (ok := fun _ => True) (okp := fun _ => True) ?hr ?hp (fun _ hk => hk) trivial (Below.refl _ _) (Nat.le_refl _) (by simp) ?_; (case hd => rfl); (case hg => rfl); (case hr => first | (go_simp; done) | (go_simp; rfl)); (case hp => exact (Reps.one (show Kd.M (Kd.int .i64) _ _ _ a0_1 [.int .i64 a0_1] from rfl) (Reps.one (show Kd.M (Kd.int .i64) _ _ _ a0_2 [.int .i64 a0_2] from rfl) (Reps.none _ _)))); intro v164 w50 ho51 hb hg_ hnew_; clear hg_ hnew_; (first | rw [← Ny163.out] at ho51 | (simp only [Int.reduceToNat] at ho51; rw [← Ny163.out] at ho51)); have n0_ := Aside0.mk (Kd.R_below (kr_ HO_3) hb); have n1_ := Aside0.mk (Kd.R_lower ho51 (below_size (bl1_ HB GE130))); have n2_ := Aside0.mk (blk_below (g := gb130) (bk_ BK130) hb); have n3_ := Aside0.mk (below_step (bl1_ HB GE130) hb); clear HO_3; clear BK130; clear HB; have HO_3 := n0_; have HO165 := n1_; have BK130 := n2_; have HB := n3_; clear n0_ n1_ n2_ n3_; clear hb ho51; obtain ⟨Ao52, co52, eo52⟩ := Kd.R_slice HO165.out; subst eo52) | ((with_reducible refine gate_callee (f := 56) rfl ?_); refine goesL_ (some 59) rfl rfl Try.func56 (by kernel_rfl) rfl #[.slice Ao52 y163.length co52] rfl ar_ ?_; (with_reducible refine (basculeref03_lay.calls kj1 _ _ y163 t166 _ ?side1 ?side2 A44.out).mono ?_); (case side1 => exact sc_ (Kd.R_reads' HO165.out).2.2); (case side2 => exact (Kd.R_reads' HO165.out).2.1); rintro e w53 ⟨v167, rfl, ho0, hb⟩; refine ⟨_, rfl, ?_⟩; have n0_ := Aside0.mk (Kd.R_elder' (kr_ HO_3) (Kd.R_base ho0) hb); have n1_ := Aside0.mk (Kd.R_below (kr_ HO165) hb); have n2_ := Aside0.mk (Kd.R_lower (Kd.R_new' ho0 (Kd.R_lt (kr_ HO_3))) (below_size (bl1_ HB GE130))); have n3_ := Aside0.mk (blk_below (g := gb130) (bk_ BK130) hb); have n4_ := Aside0.mk (below_step (bl1_ HB GE130) hb); clear HO_3; clear HO165; clear BK130; clear HB; have HO_3 := n0_; have HO165 := n1_; have HO168 := n2_; have BK130 := n3_; have HB := n4_; clear n0_ n1_ n2_ n3_ n4_; (try clear hb); (try clear hb2); (try clear hk); (try clear hi); (try clear ho0); obtain ⟨Ao55, co55, eo55⟩ := Kd.R_slice HO168.out; subst eo55) | ((with_reducible refine gate_builtin (b := .append) (xs := #[.tmp 53, .tmp 59]) rfl ?_); at_builtin; refine Kd.R_append_rows (Kd.int .u8) (w0 := w) w.heap.size rfl (.tmp 53) (.tmp 59) 58 5 (.int .u8 0) 1 rfl Try.underlying58 info5 rfl (by decide) (by omega) v132 y131 t166 _ _ _ (fun k_ => some k_ ≠ (.slice Ao55 t166.length co55 : Value).ownBlock) (fun _ => False) rfl rfl ?aO ?aR (fun _ _ h => h) (fun _ h => h.elim) ?aF ?aB ?aS ?aL ?_; (case aR => exact sc_ (Kd.R_reads' HO168.out).2.2); (case aB => exact (bl1_ HB GE130)); (case aF => exact (fun k_ hk => Kd.fresh' (Kd.R_lt (kr_ HO168)) k_ hk)); (case aO => exact (by (with_reducible repeat (first | apply Kd.R_alloc | apply Kd.R_drewN | apply Kd.R_drew)); exact Kd.R_mono HO_3.out (fun _ hk => hk.2))); (case aS => exact (below_size (bl1_ HB GE130))); (case aL => have := LMc45.out; omega); intro v170 w54 ho hb hg hat; rw [← Ny169.out] at ho; have n0_ := Aside0.mk (blk_grown (g := gb130) (bk_ BK130) hg (Kd.R_ne HO_3.out BK130.out (by decide))); have n1_ := Aside0.mk (Kd.R_over' (kr_ HO165) (Kd.R_typed (kr_ HO_3)) (by decide) hg); have n2_ := Aside0.mk (Kd.R_after (ok := (fun _ => True)) (kr_ HO168) hg hat); have n3_ := Aside0.mk (hb); have n4_ := Aside0.mk (ho); clear BK130; clear HO165; clear HO168; clear HB; clear HO_3; have BK130 := n0_; have HO165 := n1_; have HO168 := n2_; have HB := n3_; have HO171 := n4_; clear n0_ n1_ n2_ n3_ n4_; clear ho hb hg hat; refine cz7_ BK130.out ?_; intro hcz56_0 hcz56_1 hcz56_2 hcz56_3 hcz56_4 hcz56_5 hcz56_6 hfz56_0 hfz56_1 hfz56_2 hfz56_3 hfz56_4 hfz56_5 hfz56_6) | ((with_reducible refine gate_callee (f := 58) rfl ?_); refine goesL_ (some 64) rfl rfl Try.func58 (by kernel_rfl) rfl #[.slice A0_3 l0_3.length c0_3] rfl ar_ ?_; (with_reducible refine (basculeref01_Pack.calls kj1 _ _ l0_3 t172 _ ?side1 ?side2 A46.out).mono ?_); (case side1 => exact sc_ (Kd.C_below HR0_3.out HB.out)); (case side2 => exact HC0_3.out); rintro e w57 ⟨v173, rfl, ho0, hb⟩; refine ⟨_, rfl, ?_⟩; have n0_ := Aside0.mk (Kd.R_below (kr_ HO165) hb); have n1_ := Aside0.mk (Kd.R_elder' (kr_ HO168) (Kd.R_base ho0) hb); have n2_ := Aside0.mk (Kd.R_elder' (kr_ HO171) (Kd.R_base ho0) hb); have n3_ := Aside0.mk (Kd.R_lower (Kd.R_new' (Kd.R_new' ho0 (Kd.R_lt (kr_ HO168))) (Kd.R_lt (kr_ HO171))) (below_size (bl1_ HB GE130))); have n4_ := Aside0.mk (blk_below (g := gb130) (bk_ BK130) hb); have n5_ := Aside0.mk (below_step (bl1_ HB GE130) hb); clear HO165; clear HO168; clear HO171; clear BK130; clear HB; have HO165 := n0_; have HO168 := n1_; have HO171 := n2_; have HO174 := n3_; have BK130 := n4_; have HB := n5_; clear n0_ n1_ n2_ n3_ n4_ n5_; (try clear hb); (try clear hb2); (try clear hk); (try clear hi); (try clear ho0); obtain ⟨Ao58, co58, eo58⟩ := Kd.R_slice HO174.out; subst eo58) | ((with_reducible refine gate_callee (f := 57) rfl ?_); refine goesL_ (some 65) rfl rfl Try.func57 (by kernel_rfl) rfl #[.slice Ao58 t172.length co58] rfl ar_ ?_; (with_reducible refine (basculeref03_counted.calls _ _ t172 t175 _ ?side1 ?side2 A47.out).mono ?_); (case side1 => exact sc_ (Kd.R_reads' HO174.out).2.2); (case side2 => exact (Kd.R_reads' HO174.out).2.1); rintro e w59 ⟨v176, rfl, ho0, hb⟩; refine ⟨_, rfl, ?_⟩; have n0_ := Aside0.mk (Kd.R_below (kr_ HO165) hb); have n1_ := Aside0.mk (Kd.R_elder' (kr_ HO168) (Kd.R_base ho0) hb); have n2_ := Aside0.mk (Kd.R_elder' (kr_ HO171) (Kd.R_base ho0) hb); have n3_ := Aside0.mk (Kd.R_elder' (kr_ HO174) (Kd.R_base ho0) hb); have n4_ := Aside0.mk (Kd.R_lower (Kd.R_new' (Kd.R_new' (Kd.R_new' ho0 (Kd.R_lt (kr_ HO168))) (Kd.R_lt (kr_ HO171))) (Kd.R_lt (kr_ HO174))) (below_size (bl1_ HB GE130))); have n5_ := Aside0.mk (blk_below (g := gb130) (bk_ BK130) hb); have n6_ := Aside0.mk (below_step (bl1_ HB GE130) hb); clear HO165; clear HO168; clear HO171; clear HO174; clear BK130; clear HB; have HO165 := n0_; have HO168 := n1_; have HO171 := n2_; have HO174 := n3_; have HO177 := n4_; have BK130 := n5_; have HB := n6_; clear n0_ n1_ n2_ n3_ n4_ n5_ n6_; (try clear hb); (try clear hb2); (try clear hk); (try clear hi); (try clear ho0); obtain ⟨Ao61, co61, eo61⟩ := Kd.R_slice HO177.out; subst eo61) | ((with_reducible refine gate_builtin (b := .append) (xs := #[.tmp 61, .tmp 65]) rfl ?_); at_builtin; refine Kd.R_append_rows (Kd.int .u8) (w0 := w) w.heap.size rfl (.tmp 61) (.tmp 65) 58 5 (.int .u8 0) 1 rfl Try.underlying58 info5 rfl (by decide) (by omega) v170 y169 t175 _ _ _ (fun k_ => some k_ ≠ (.slice Ao55 t166.length co55 : Value).ownBlock ∧ some k_ ≠ (.slice Ao58 t172.length co58 : Value).ownBlock ∧ some k_ ≠ (.slice Ao61 t175.length co61 : Value).ownBlock) (fun _ => False) rfl rfl ?aO ?aR (fun _ _ h => h) (fun _ h => h.elim) ?aF ?aB ?aS ?aL ?_; (case aR => exact sc_ (Kd.R_reads' HO177.out).2.2); (case aB => exact (bl1_ HB GE130)); (case aF => exact (fun k_ hk => ⟨Kd.fresh' (Kd.R_lt (kr_ HO168)) k_ hk, Kd.fresh' (Kd.R_lt (kr_ HO174)) k_ hk, Kd.fresh' (Kd.R_lt (kr_ HO177)) k_ hk⟩)); (case aO => exact (by (with_reducible repeat (first | apply Kd.R_alloc | apply Kd.R_drewN | apply Kd.R_drew)); exact Kd.R_mono HO171.out (fun _ hk => ⟨hk.1.1, ⟨hk.1.2, hk.2⟩⟩))); (case aS => exact (below_size (bl1_ HB GE130))); (case aL => have := LMc48.out; omega); intro v179 w60 ho hb hg hat; rw [← Ny178.out] at ho; have n0_ := Aside0.mk (blk_grown (g := gb130) (bk_ BK130) hg (Kd.R_ne HO171.out BK130.out (by decide))); have n1_ := Aside0.mk (Kd.R_over' (kr_ HO165) (Kd.R_typed (kr_ HO171)) (by decide) hg); have n2_ := Aside0.mk (Kd.R_after (ok := (fun k_ => some k_ ≠ (.slice Ao58 t172.length co58 : Value).ownBlock ∧ some k_ ≠ (.slice Ao61 t175.length co61 : Value).ownBlock)) (by (with_reducible repeat (first | apply Kd.R_alloc | apply Kd.R_drewN | apply Kd.R_drew)); exact Kd.R_mono HO168.out (fun _ hk => ⟨⟨hk.1.2, hk.2⟩, hk.1.1.2⟩)) hg hat); have n3_ := Aside0.mk (Kd.R_after (ok := (fun k_ => some k_ ≠ (.slice Ao55 t166.length co55 : Value).ownBlock ∧ some k_ ≠ (.slice Ao61 t175.length co61 : Value).ownBlock)) (by (with_reducible repeat (first | apply Kd.R_alloc | apply Kd.R_drewN | apply Kd.R_drew)); exact Kd.R_mono HO174.out (fun _ hk => ⟨⟨hk.1.1.2, hk.2⟩, hk.1.2⟩)) hg hat); have n4_ := Aside0.mk (Kd.R_after (ok := (fun k_ => some k_ ≠ (.slice Ao55 t166.length co55 : Value).ownBlock ∧ some k_ ≠ (.slice Ao58 t172.length co58 : Value).ownBlock)) (by (with_reducible repeat (first | apply Kd.R_alloc | apply Kd.R_drewN | apply Kd.R_drew)); exact Kd.R_mono HO177.out (fun _ hk => ⟨⟨hk.1.1.2, hk.2⟩, hk.1.2⟩)) hg hat); have n5_ := Aside0.mk (hb); have n6_ := Aside0.mk (ho); clear BK130; clear HO165; clear HO168; clear HO174; clear HO177; clear HB; clear HO171; have BK130 := n0_; have HO165 := n1_; have HO168 := n2_; have HO174 := n3_; have HO177 := n4_; have HB := n5_; have HO180 := n6_; clear n0_ n1_ n2_ n3_ n4_ n5_ n6_; clear ho hb hg hat))
         go_ret
         exact ⟨_, er_, by (with_reducible repeat (first | apply Kd.R_alloc | apply Kd.R_drewN | apply Kd.R_drew)); exact Kd.R_mono HO180.out (fun _ hk => trivial), bl1_ HB GE130⟩
        ·rw [if_neg c48] at H
         exact absurd H (by simp)
       ·rw [if_neg c45] at H
        exact absurd H (by simp)
      ·rw [if_neg c43] at H
       have c43b0 : (a0_0 == 15) = false := beq_eq_false_iff_ne.mpr c43
       have c43b1 : (a0_0 != 15) = true := bne_iff_ne.mpr c43
       by_cases c62 : a0_0 = 16
       ·rw [if_pos c62] at H
        have c62b0 : (a0_0 == 16) = true := beq_iff_eq.mpr c62
        have c62b1 : (a0_0 != 16) = false := bne_eq_false_iff_eq.mpr c62
        clear c62
        obtain ⟨y181, hy181⟩ : ∃ y_ : List Int, y_ = (([a0_1, a0_2] : List Int)) := ⟨_, rfl⟩
        replace H : ((basculeref03_lay.f kj1 y181).bind fun t184 => (if y131.length + t184.length < 140737488355328 then ((some (y131 ++ t184 : List Int)).bind fun y187 => ((basculeref03_lay.f kj1 l0_3).bind fun t190 => ((basculeref03_counted.f t190).bind fun t193 => (if y187.length + t193.length < 140737488355328 then (some (y187 ++ t193)) else (none))))) else (none))) = some r := by first | (rw [hy181]; with_reducible exact H) | (have H2_ := (Option.bind_some _ _).symm.trans H; rw [hy181]; with_reducible exact H2_) | (have H2_ := (Option.bind_some _ _).symm.trans H; with_reducible exact H2_) | with_reducible exact H | (rw [hy181]; exact H) | exact H
        have Ny181 := Aside0.mk hy181
        clear hy181
        replace H := Option.bind_eq_some_iff.mp H
        obtain ⟨t184, A630, H⟩ := H
        replace H : (if y131.length + t184.length < 140737488355328 then ((some (y131 ++ t184 : List Int)).bind fun y187 => ((basculeref03_lay.f kj1 l0_3).bind fun t190 => ((basculeref03_counted.f t190).bind fun t193 => (if y187.length + t193.length < 140737488355328 then (some (y187 ++ t193)) else (none))))) else (none)) = some r := H
        have A63 := Aside0.mk A630
        clear A630
        by_cases c64 : y131.length + t184.length < 140737488355328
        ·rw [if_pos c64] at H
         have LMc64 := Aside0.mk c64
         clear c64
         obtain ⟨y187, hy187⟩ : ∃ y_ : List Int, y_ = (y131 ++ t184) := ⟨_, rfl⟩
         replace H : ((basculeref03_lay.f kj1 l0_3).bind fun t190 => ((basculeref03_counted.f t190).bind fun t193 => (if y187.length + t193.length < 140737488355328 then (some (y187 ++ t193)) else (none)))) = some r := by first | (rw [hy187]; with_reducible exact H) | (have H2_ := (Option.bind_some _ _).symm.trans H; rw [hy187]; with_reducible exact H2_) | (have H2_ := (Option.bind_some _ _).symm.trans H; with_reducible exact H2_) | with_reducible exact H | (rw [hy187]; exact H) | exact H
         have Ny187 := Aside0.mk hy187
         clear hy187
         replace H := Option.bind_eq_some_iff.mp H
         obtain ⟨t190, A650, H⟩ := H
         replace H : ((basculeref03_counted.f t190).bind fun t193 => (if y187.length + t193.length < 140737488355328 then (some (y187 ++ t193)) else (none))) = some r := H
         have A65 := Aside0.mk A650
         clear A650
         replace H := Option.bind_eq_some_iff.mp H
         obtain ⟨t193, A660, H⟩ := H
         replace H : (if y187.length + t193.length < 140737488355328 then (some (y187 ++ t193)) else (none)) = some r := H
         have A66 := Aside0.mk A660
         clear A660
         by_cases c67 : y187.length + t193.length < 140737488355328
         ·rw [if_pos c67] at H
          have LMc67 := Aside0.mk c67
          clear c67
          obtain ⟨y196, hy196⟩ : ∃ y_ : List Int, y_ = (y187 ++ t193) := ⟨_, rfl⟩
          replace H : (some y196) = some r := by first | (rw [hy196]; with_reducible exact H) | (have H2_ := (Option.bind_some _ _).symm.trans H; rw [hy196]; with_reducible exact H2_) | (have H2_ := (Option.bind_some _ _).symm.trans H; with_reducible exact H2_) | with_reducible exact H | (rw [hy196]; exact H) | exact H
          have Ny196 := Aside0.mk hy196
          clear hy196
          obtain rfl := Option.some.inj H
          refine cz7_ BK130.out ?_; intro hcz68_0 hcz68_1 hcz68_2 hcz68_3 hcz68_4 hcz68_5 hcz68_6 hfz68_0 hfz68_1 hfz68_2 hfz68_3 hfz68_4 hfz68_5 hfz68_6
          go_wp2_with (first | ((with_reducible refine gate_dst (N := 75) rfl ?_); refine Kd.R_lit (Kd.int .i64) _ 3 ?hg (N := 75) ?hd (xs := ([a0_1, a0_2] : List Int)) (inner := [.int .i64 a0_1, .int .i64 a0_2]) (ok := fun _ => True) (okp := fun _ => True) ?hr ?hp (fun _ hk => hk) trivial (Below.refl _ _) (Nat.le_refl _) (by simp) ?_; (case hd => rfl); (case hg => rfl); (case hr => first | (go_simp; done) | (go_simp; rfl)); (case hp => exact (Reps.one (show Kd.M (Kd.int .i64) _ _ _ a0_1 [.int .i64 a0_1] from rfl) (Reps.one (show Kd.M (Kd.int .i64) _ _ _ a0_2 [.int .i64 a0_2] from rfl) (Reps.none _ _)))); intro v182 w69 ho70 hb hg_ hnew_; clear hg_ hnew_; (first | rw [← Ny181.out] at ho70 | (simp only [Int.reduceToNat] at ho70; rw [← Ny181.out] at ho70)); have n0_ := Aside0.mk (Kd.R_below (kr_ HO_3) hb); have n1_ := Aside0.mk (Kd.R_lower ho70 (below_size (bl1_ HB GE130))); have n2_ := Aside0.mk (blk_below (g := gb130) (bk_ BK130) hb); have n3_ := Aside0.mk (below_step (bl1_ HB GE130) hb); clear HO_3; clear BK130; clear HB; have HO_3 := n0_; have HO183 := n1_; have BK130 := n2_; have HB := n3_; clear n0_ n1_ n2_ n3_; clear hb ho70; obtain ⟨Ao71, co71, eo71⟩ := Kd.R_slice HO183.out; subst eo71) | ((with_reducible refine gate_callee (f := 56) rfl ?_); refine goesL_ (some 76) rfl rfl Try.func56 (by kernel_rfl) rfl #[.slice Ao71 y181.length co71] rfl ar_ ?_; (with_reducible refine (basculeref03_lay.calls kj1 _ _ y181 t184 _ ?side1 ?side2 A63.out).mono ?_); (case side1 => exact sc_ (Kd.R_reads' HO183.out).2.2); (case side2 => exact (Kd.R_reads' HO183.out).2.1); rintro e w72 ⟨v185, rfl, ho0, hb⟩; refine ⟨_, rfl, ?_⟩; have n0_ := Aside0.mk (Kd.R_elder' (kr_ HO_3) (Kd.R_base ho0) hb); have n1_ := Aside0.mk (Kd.R_below (kr_ HO183) hb); have n2_ := Aside0.mk (Kd.R_lower (Kd.R_new' ho0 (Kd.R_lt (kr_ HO_3))) (below_size (bl1_ HB GE130))); have n3_ := Aside0.mk (blk_below (g := gb130) (bk_ BK130) hb); have n4_ := Aside0.mk (below_step (bl1_ HB GE130) hb); clear HO_3; clear HO183; clear BK130; clear HB; have HO_3 := n0_; have HO183 := n1_; have HO186 := n2_; have BK130 := n3_; have HB := n4_; clear n0_ n1_ n2_ n3_ n4_; (try clear hb); (try clear hb2); (try clear hk); (try clear hi); (try clear ho0); obtain ⟨Ao74, co74, eo74⟩ := Kd.R_slice HO186.out; subst eo74) | ((with_reducible refine gate_builtin (b := .append) (xs := #[.tmp 70, .tmp 76]) rfl ?_); at_builtin; refine Kd.R_append_rows (Kd.int .u8) (w0 := w) w.heap.size rfl (.tmp 70) (.tmp 76) 58 5 (.int .u8 0) 1 rfl Try.underlying58 info5 rfl (by decide) (by omega) v132 y131 t184 _ _ _ (fun k_ => some k_ ≠ (.slice Ao74 t184.length co74 : Value).ownBlock) (fun _ => False) rfl rfl ?aO ?aR (fun _ _ h => h) (fun _ h => h.elim) ?aF ?aB ?aS ?aL ?_; (case aR => exact sc_ (Kd.R_reads' HO186.out).2.2); (case aB => exact (bl1_ HB GE130)); (case aF => exact (fun k_ hk => Kd.fresh' (Kd.R_lt (kr_ HO186)) k_ hk)); (case aO => exact (by (with_reducible repeat (first | apply Kd.R_alloc | apply Kd.R_drewN | apply Kd.R_drew)); exact Kd.R_mono HO_3.out (fun _ hk => hk.2))); (case aS => exact (below_size (bl1_ HB GE130))); (case aL => have := LMc64.out; omega); intro v188 w73 ho hb hg hat; rw [← Ny187.out] at ho; have n0_ := Aside0.mk (blk_grown (g := gb130) (bk_ BK130) hg (Kd.R_ne HO_3.out BK130.out (by decide))); have n1_ := Aside0.mk (Kd.R_over' (kr_ HO183) (Kd.R_typed (kr_ HO_3)) (by decide) hg); have n2_ := Aside0.mk (Kd.R_after (ok := (fun _ => True)) (kr_ HO186) hg hat); have n3_ := Aside0.mk (hb); have n4_ := Aside0.mk (ho); clear BK130; clear HO183; clear HO186; clear HB; clear HO_3; have BK130 := n0_; have HO183 := n1_; have HO186 := n2_; have HB := n3_; have HO189 := n4_; clear n0_ n1_ n2_ n3_ n4_; clear ho hb hg hat; refine cz7_ BK130.out ?_; intro hcz75_0 hcz75_1 hcz75_2 hcz75_3 hcz75_4 hcz75_5 hcz75_6 hfz75_0 hfz75_1 hfz75_2 hfz75_3 hfz75_4 hfz75_5 hfz75_6) | ((with_reducible refine gate_callee (f := 56) rfl ?_); refine goesL_ (some 81) rfl rfl Try.func56 (by kernel_rfl) rfl #[.slice A0_3 l0_3.length c0_3] rfl ar_ ?_; (with_reducible refine (basculeref03_lay.calls kj1 _ _ l0_3 t190 _ ?side1 ?side2 A65.out).mono ?_); (case side1 => exact sc_ (Kd.C_below HR0_3.out HB.out)); (case side2 => exact HC0_3.out); rintro e w76 ⟨v191, rfl, ho0, hb⟩; refine ⟨_, rfl, ?_⟩; have n0_ := Aside0.mk (Kd.R_below (kr_ HO183) hb); have n1_ := Aside0.mk (Kd.R_elder' (kr_ HO186) (Kd.R_base ho0) hb); have n2_ := Aside0.mk (Kd.R_elder' (kr_ HO189) (Kd.R_base ho0) hb); have n3_ := Aside0.mk (Kd.R_lower (Kd.R_new' (Kd.R_new' ho0 (Kd.R_lt (kr_ HO186))) (Kd.R_lt (kr_ HO189))) (below_size (bl1_ HB GE130))); have n4_ := Aside0.mk (blk_below (g := gb130) (bk_ BK130) hb); have n5_ := Aside0.mk (below_step (bl1_ HB GE130) hb); clear HO183; clear HO186; clear HO189; clear BK130; clear HB; have HO183 := n0_; have HO186 := n1_; have HO189 := n2_; have HO192 := n3_; have BK130 := n4_; have HB := n5_; clear n0_ n1_ n2_ n3_ n4_ n5_; (try clear hb); (try clear hb2); (try clear hk); (try clear hi); (try clear ho0); obtain ⟨Ao77, co77, eo77⟩ := Kd.R_slice HO192.out; subst eo77) | ((with_reducible refine gate_callee (f := 57) rfl ?_); refine goesL_ (some 82) rfl rfl Try.func57 (by kernel_rfl) rfl #[.slice Ao77 t190.length co77] rfl ar_ ?_; (with_reducible refine (basculeref03_counted.calls _ _ t190 t193 _ ?side1 ?side2 A66.out).mono ?_); (case side1 => exact sc_ (Kd.R_reads' HO192.out).2.2); (case side2 => exact (Kd.R_reads' HO192.out).2.1); rintro e w78 ⟨v194, rfl, ho0, hb⟩; refine ⟨_, rfl, ?_⟩; have n0_ := Aside0.mk (Kd.R_below (kr_ HO183) hb); have n1_ := Aside0.mk (Kd.R_elder' (kr_ HO186) (Kd.R_base ho0) hb); have n2_ := Aside0.mk (Kd.R_elder' (kr_ HO189) (Kd.R_base ho0) hb); have n3_ := Aside0.mk (Kd.R_elder' (kr_ HO192) (Kd.R_base ho0) hb); have n4_ := Aside0.mk (Kd.R_lower (Kd.R_new' (Kd.R_new' (Kd.R_new' ho0 (Kd.R_lt (kr_ HO186))) (Kd.R_lt (kr_ HO189))) (Kd.R_lt (kr_ HO192))) (below_size (bl1_ HB GE130))); have n5_ := Aside0.mk (blk_below (g := gb130) (bk_ BK130) hb); have n6_ := Aside0.mk (below_step (bl1_ HB GE130) hb); clear HO183; clear HO186; clear HO189; clear HO192; clear BK130; clear HB; have HO183 := n0_; have HO186 := n1_; have HO189 := n2_; have HO192 := n3_; have HO195 := n4_; have BK130 := n5_; have HB := n6_; clear n0_ n1_ n2_ n3_ n4_ n5_ n6_; (try clear hb); (try clear hb2); (try clear hk); (try clear hi); (try clear ho0); obtain ⟨Ao80, co80, eo80⟩ := Kd.R_slice HO195.out; subst eo80) | ((with_reducible refine gate_builtin (b := .append) (xs := #[.tmp 78, .tmp 82]) rfl ?_); at_builtin; refine Kd.R_append_rows (Kd.int .u8) (w0 := w) w.heap.size rfl (.tmp 78) (.tmp 82) 58 5 (.int .u8 0) 1 rfl Try.underlying58 info5 rfl (by decide) (by omega) v188 y187 t193 _ _ _ (fun k_ => some k_ ≠ (.slice Ao74 t184.length co74 : Value).ownBlock ∧ some k_ ≠ (.slice Ao77 t190.length co77 : Value).ownBlock ∧ some k_ ≠ (.slice Ao80 t193.length co80 : Value).ownBlock) (fun _ => False) rfl rfl ?aO ?aR (fun _ _ h => h) (fun _ h => h.elim) ?aF ?aB ?aS ?aL ?_; (case aR => exact sc_ (Kd.R_reads' HO195.out).2.2); (case aB => exact (bl1_ HB GE130)); (case aF => exact (fun k_ hk => ⟨Kd.fresh' (Kd.R_lt (kr_ HO186)) k_ hk, Kd.fresh' (Kd.R_lt (kr_ HO192)) k_ hk, Kd.fresh' (Kd.R_lt (kr_ HO195)) k_ hk⟩)); (case aO => exact (by (with_reducible repeat (first | apply Kd.R_alloc | apply Kd.R_drewN | apply Kd.R_drew)); exact Kd.R_mono HO189.out (fun _ hk => ⟨hk.1.1, ⟨hk.1.2, hk.2⟩⟩))); (case aS => exact (below_size (bl1_ HB GE130))); (case aL => have := LMc67.out; omega); intro v197 w79 ho hb hg hat; rw [← Ny196.out] at ho; have n0_ := Aside0.mk (blk_grown (g := gb130) (bk_ BK130) hg (Kd.R_ne HO189.out BK130.out (by decide))); have n1_ := Aside0.mk (Kd.R_over' (kr_ HO183) (Kd.R_typed (kr_ HO189)) (by decide) hg); have n2_ := Aside0.mk (Kd.R_after (ok := (fun k_ => some k_ ≠ (.slice Ao77 t190.length co77 : Value).ownBlock ∧ some k_ ≠ (.slice Ao80 t193.length co80 : Value).ownBlock)) (by (with_reducible repeat (first | apply Kd.R_alloc | apply Kd.R_drewN | apply Kd.R_drew)); exact Kd.R_mono HO186.out (fun _ hk => ⟨⟨hk.1.2, hk.2⟩, hk.1.1.2⟩)) hg hat); have n3_ := Aside0.mk (Kd.R_after (ok := (fun k_ => some k_ ≠ (.slice Ao74 t184.length co74 : Value).ownBlock ∧ some k_ ≠ (.slice Ao80 t193.length co80 : Value).ownBlock)) (by (with_reducible repeat (first | apply Kd.R_alloc | apply Kd.R_drewN | apply Kd.R_drew)); exact Kd.R_mono HO192.out (fun _ hk => ⟨⟨hk.1.1.2, hk.2⟩, hk.1.2⟩)) hg hat); have n4_ := Aside0.mk (Kd.R_after (ok := (fun k_ => some k_ ≠ (.slice Ao74 t184.length co74 : Value).ownBlock ∧ some k_ ≠ (.slice Ao77 t190.length co77 : Value).ownBlock)) (by (with_reducible repeat (first | apply Kd.R_alloc | apply Kd.R_drewN | apply Kd.R_drew)); exact Kd.R_mono HO195.out (fun _ hk => ⟨⟨hk.1.1.2, hk.2⟩, hk.1.2⟩)) hg hat); have n5_ := Aside0.mk (hb); have n6_ := Aside0.mk (ho); clear BK130; clear HO183; clear HO186; clear HO192; clear HO195; clear HB; clear HO189; have BK130 := n0_; have HO183 := n1_; have HO186 := n2_; have HO192 := n3_; have HO195 := n4_; have HB := n5_; have HO198 := n6_; clear n0_ n1_ n2_ n3_ n4_ n5_ n6_; clear ho hb hg hat))
          go_ret
          exact ⟨_, er_, by (with_reducible repeat (first | apply Kd.R_alloc | apply Kd.R_drewN | apply Kd.R_drew)); exact Kd.R_mono HO198.out (fun _ hk => trivial), bl1_ HB GE130⟩
         ·rw [if_neg c67] at H
          exact absurd H (by simp)
        ·rw [if_neg c64] at H
         exact absurd H (by simp)
       ·rw [if_neg c62] at H
        have c62b0 : (a0_0 == 16) = false := beq_eq_false_iff_ne.mpr c62
        have c62b1 : (a0_0 != 16) = true := bne_iff_ne.mpr c62
        by_cases c81 : a0_0 = 22
        ·rw [if_pos c81] at H
         have c81b0 : (a0_0 == 22) = true := beq_iff_eq.mpr c81
         have c81b1 : (a0_0 != 22) = false := bne_eq_false_iff_eq.mpr c81
         clear c81
         obtain ⟨y199, hy199⟩ : ∃ y_ : List Int, y_ = (([a0_1, a0_5, a0_6] : List Int)) := ⟨_, rfl⟩
         replace H : ((basculeref03_lay.f kj1 y199).bind fun t202 => (if y131.length + t202.length < 140737488355328 then (some (y131 ++ t202)) else (none))) = some r := by first | (rw [hy199]; with_reducible exact H) | (have H2_ := (Option.bind_some _ _).symm.trans H; rw [hy199]; with_reducible exact H2_) | (have H2_ := (Option.bind_some _ _).symm.trans H; with_reducible exact H2_) | with_reducible exact H | (rw [hy199]; exact H) | exact H
         have Ny199 := Aside0.mk hy199
         clear hy199
         replace H := Option.bind_eq_some_iff.mp H
         obtain ⟨t202, A820, H⟩ := H
         replace H : (if y131.length + t202.length < 140737488355328 then (some (y131 ++ t202)) else (none)) = some r := H
         have A82 := Aside0.mk A820
         clear A820
         by_cases c83 : y131.length + t202.length < 140737488355328
         ·rw [if_pos c83] at H
          have LMc83 := Aside0.mk c83
          clear c83
          obtain ⟨y205, hy205⟩ : ∃ y_ : List Int, y_ = (y131 ++ t202) := ⟨_, rfl⟩
          replace H : (some y205) = some r := by first | (rw [hy205]; with_reducible exact H) | (have H2_ := (Option.bind_some _ _).symm.trans H; rw [hy205]; with_reducible exact H2_) | (have H2_ := (Option.bind_some _ _).symm.trans H; with_reducible exact H2_) | with_reducible exact H | (rw [hy205]; exact H) | exact H
          have Ny205 := Aside0.mk hy205
          clear hy205
          obtain rfl := Option.some.inj H
          refine cz7_ BK130.out ?_; intro hcz84_0 hcz84_1 hcz84_2 hcz84_3 hcz84_4 hcz84_5 hcz84_6 hfz84_0 hfz84_1 hfz84_2 hfz84_3 hfz84_4 hfz84_5 hfz84_6
          go_wp2_with (first | ((with_reducible refine gate_dst (N := 94) rfl ?_); refine Kd.R_lit (Kd.int .i64) _ 3 ?hg (N := 94) ?hd (xs := ([a0_1, a0_5, a0_6] : List Int)) (inner := [.int .i64 a0_1, .int .i64 a0_5, .int .i64 a0_6]) (ok := fun _ => True) (okp := fun _ => True) ?hr ?hp (fun _ hk => hk) trivial (Below.refl _ _) (Nat.le_refl _) (by simp) ?_; (case hd => rfl); (case hg => rfl); (case hr => first | (go_simp; done) | (go_simp; rfl)); (case hp => exact (Reps.one (show Kd.M (Kd.int .i64) _ _ _ a0_1 [.int .i64 a0_1] from rfl) (Reps.one (show Kd.M (Kd.int .i64) _ _ _ a0_5 [.int .i64 a0_5] from rfl) (Reps.one (show Kd.M (Kd.int .i64) _ _ _ a0_6 [.int .i64 a0_6] from rfl) (Reps.none _ _))))); intro v200 w85 ho86 hb hg_ hnew_; clear hg_ hnew_; (first | rw [← Ny199.out] at ho86 | (simp only [Int.reduceToNat] at ho86; rw [← Ny199.out] at ho86)); have n0_ := Aside0.mk (Kd.R_below (kr_ HO_3) hb); have n1_ := Aside0.mk (Kd.R_lower ho86 (below_size (bl1_ HB GE130))); have n2_ := Aside0.mk (blk_below (g := gb130) (bk_ BK130) hb); have n3_ := Aside0.mk (below_step (bl1_ HB GE130) hb); clear HO_3; clear BK130; clear HB; have HO_3 := n0_; have HO201 := n1_; have BK130 := n2_; have HB := n3_; clear n0_ n1_ n2_ n3_; clear hb ho86; obtain ⟨Ao87, co87, eo87⟩ := Kd.R_slice HO201.out; subst eo87) | ((with_reducible refine gate_callee (f := 56) rfl ?_); refine goesL_ (some 95) rfl rfl Try.func56 (by kernel_rfl) rfl #[.slice Ao87 y199.length co87] rfl ar_ ?_; (with_reducible refine (basculeref03_lay.calls kj1 _ _ y199 t202 _ ?side1 ?side2 A82.out).mono ?_); (case side1 => exact sc_ (Kd.R_reads' HO201.out).2.2); (case side2 => exact (Kd.R_reads' HO201.out).2.1); rintro e w88 ⟨v203, rfl, ho0, hb⟩; refine ⟨_, rfl, ?_⟩; have n0_ := Aside0.mk (Kd.R_elder' (kr_ HO_3) (Kd.R_base ho0) hb); have n1_ := Aside0.mk (Kd.R_below (kr_ HO201) hb); have n2_ := Aside0.mk (Kd.R_lower (Kd.R_new' ho0 (Kd.R_lt (kr_ HO_3))) (below_size (bl1_ HB GE130))); have n3_ := Aside0.mk (blk_below (g := gb130) (bk_ BK130) hb); have n4_ := Aside0.mk (below_step (bl1_ HB GE130) hb); clear HO_3; clear HO201; clear BK130; clear HB; have HO_3 := n0_; have HO201 := n1_; have HO204 := n2_; have BK130 := n3_; have HB := n4_; clear n0_ n1_ n2_ n3_ n4_; (try clear hb); (try clear hb2); (try clear hk); (try clear hi); (try clear ho0); obtain ⟨Ao90, co90, eo90⟩ := Kd.R_slice HO204.out; subst eo90) | ((with_reducible refine gate_builtin (b := .append) (xs := #[.tmp 87, .tmp 95]) rfl ?_); at_builtin; refine Kd.R_append_rows (Kd.int .u8) (w0 := w) w.heap.size rfl (.tmp 87) (.tmp 95) 58 5 (.int .u8 0) 1 rfl Try.underlying58 info5 rfl (by decide) (by omega) v132 y131 t202 _ _ _ (fun k_ => some k_ ≠ (.slice Ao90 t202.length co90 : Value).ownBlock) (fun _ => False) rfl rfl ?aO ?aR (fun _ _ h => h) (fun _ h => h.elim) ?aF ?aB ?aS ?aL ?_; (case aR => exact sc_ (Kd.R_reads' HO204.out).2.2); (case aB => exact (bl1_ HB GE130)); (case aF => exact (fun k_ hk => Kd.fresh' (Kd.R_lt (kr_ HO204)) k_ hk)); (case aO => exact (by (with_reducible repeat (first | apply Kd.R_alloc | apply Kd.R_drewN | apply Kd.R_drew)); exact Kd.R_mono HO_3.out (fun _ hk => hk.2))); (case aS => exact (below_size (bl1_ HB GE130))); (case aL => have := LMc83.out; omega); intro v206 w89 ho hb hg hat; rw [← Ny205.out] at ho; have n0_ := Aside0.mk (blk_grown (g := gb130) (bk_ BK130) hg (Kd.R_ne HO_3.out BK130.out (by decide))); have n1_ := Aside0.mk (Kd.R_over' (kr_ HO201) (Kd.R_typed (kr_ HO_3)) (by decide) hg); have n2_ := Aside0.mk (Kd.R_after (ok := (fun _ => True)) (kr_ HO204) hg hat); have n3_ := Aside0.mk (hb); have n4_ := Aside0.mk (ho); clear BK130; clear HO201; clear HO204; clear HB; clear HO_3; have BK130 := n0_; have HO201 := n1_; have HO204 := n2_; have HB := n3_; have HO207 := n4_; clear n0_ n1_ n2_ n3_ n4_; clear ho hb hg hat))
          go_ret
          exact ⟨_, er_, by (with_reducible repeat (first | apply Kd.R_alloc | apply Kd.R_drewN | apply Kd.R_drew)); exact Kd.R_mono HO207.out (fun _ hk => trivial), bl1_ HB GE130⟩
         ·rw [if_neg c83] at H
          exact absurd H (by simp)
        ·rw [if_neg c81] at H
         have c81b0 : (a0_0 == 22) = false := beq_eq_false_iff_ne.mpr c81
         have c81b1 : (a0_0 != 22) = true := bne_iff_ne.mpr c81
         obtain ⟨y208, hy208⟩ : ∃ y_ : List Int, y_ = (([a0_1, a0_2, a0_4, (l0_3.length : Int)] : List Int)) := ⟨_, rfl⟩
         replace H : ((basculeref03_lay.f kj1 y208).bind fun t211 => (if y131.length + t211.length < 140737488355328 then ((some (y131 ++ t211 : List Int)).bind fun y214 => ((basculeref03_lay.f kj1 l0_3).bind fun t217 => ((basculeref03_counted.f t217).bind fun t220 => (if y214.length + t220.length < 140737488355328 then (some (y214 ++ t220)) else (none))))) else (none))) = some r := by first | (rw [hy208]; with_reducible exact H) | (have H2_ := (Option.bind_some _ _).symm.trans H; rw [hy208]; with_reducible exact H2_) | (have H2_ := (Option.bind_some _ _).symm.trans H; with_reducible exact H2_) | with_reducible exact H | (rw [hy208]; exact H) | exact H
         have Ny208 := Aside0.mk hy208
         clear hy208
         replace H := Option.bind_eq_some_iff.mp H
         obtain ⟨t211, A910, H⟩ := H
         replace H : (if y131.length + t211.length < 140737488355328 then ((some (y131 ++ t211 : List Int)).bind fun y214 => ((basculeref03_lay.f kj1 l0_3).bind fun t217 => ((basculeref03_counted.f t217).bind fun t220 => (if y214.length + t220.length < 140737488355328 then (some (y214 ++ t220)) else (none))))) else (none)) = some r := H
         have A91 := Aside0.mk A910
         clear A910
         by_cases c92 : y131.length + t211.length < 140737488355328
         ·rw [if_pos c92] at H
          have LMc92 := Aside0.mk c92
          clear c92
          obtain ⟨y214, hy214⟩ : ∃ y_ : List Int, y_ = (y131 ++ t211) := ⟨_, rfl⟩
          replace H : ((basculeref03_lay.f kj1 l0_3).bind fun t217 => ((basculeref03_counted.f t217).bind fun t220 => (if y214.length + t220.length < 140737488355328 then (some (y214 ++ t220)) else (none)))) = some r := by first | (rw [hy214]; with_reducible exact H) | (have H2_ := (Option.bind_some _ _).symm.trans H; rw [hy214]; with_reducible exact H2_) | (have H2_ := (Option.bind_some _ _).symm.trans H; with_reducible exact H2_) | with_reducible exact H | (rw [hy214]; exact H) | exact H
          have Ny214 := Aside0.mk hy214
          clear hy214
          replace H := Option.bind_eq_some_iff.mp H
          obtain ⟨t217, A930, H⟩ := H
          replace H : ((basculeref03_counted.f t217).bind fun t220 => (if y214.length + t220.length < 140737488355328 then (some (y214 ++ t220)) else (none))) = some r := H
          have A93 := Aside0.mk A930
          clear A930
          replace H := Option.bind_eq_some_iff.mp H
          obtain ⟨t220, A940, H⟩ := H
          replace H : (if y214.length + t220.length < 140737488355328 then (some (y214 ++ t220)) else (none)) = some r := H
          have A94 := Aside0.mk A940
          clear A940
          by_cases c95 : y214.length + t220.length < 140737488355328
          ·rw [if_pos c95] at H
           have LMc95 := Aside0.mk c95
           clear c95
           obtain ⟨y223, hy223⟩ : ∃ y_ : List Int, y_ = (y214 ++ t220) := ⟨_, rfl⟩
           replace H : (some y223) = some r := by first | (rw [hy223]; with_reducible exact H) | (have H2_ := (Option.bind_some _ _).symm.trans H; rw [hy223]; with_reducible exact H2_) | (have H2_ := (Option.bind_some _ _).symm.trans H; with_reducible exact H2_) | with_reducible exact H | (rw [hy223]; exact H) | exact H
           have Ny223 := Aside0.mk hy223
           clear hy223
           obtain rfl := Option.some.inj H
           refine cz7_ BK130.out ?_; intro hcz96_0 hcz96_1 hcz96_2 hcz96_3 hcz96_4 hcz96_5 hcz96_6 hfz96_0 hfz96_1 hfz96_2 hfz96_3 hfz96_4 hfz96_5 hfz96_6
           go_wp2_with (first | ((with_reducible refine gate_dst (N := 108) rfl ?_); refine Kd.R_lit (Kd.int .i64) _ 3 ?hg (N := 108) ?hd (xs := ([a0_1, a0_2, a0_4, (l0_3.length : Int)] : List Int)) (inner := [.int .i64 a0_1, .int .i64 a0_2, .int .i64 a0_4, .int .i64 (l0_3.length : Int)]) (ok := fun _ => True) (okp := fun _ => True) ?hr ?hp (fun _ hk => hk) trivial (Below.refl _ _) (Nat.le_refl _) (by simp) ?_; (case hd => rfl); (case hg => rfl); (case hr => first | (go_simp; done) | (go_simp; rfl)); (case hp => exact (Reps.one (show Kd.M (Kd.int .i64) _ _ _ a0_1 [.int .i64 a0_1] from rfl) (Reps.one (show Kd.M (Kd.int .i64) _ _ _ a0_2 [.int .i64 a0_2] from rfl) (Reps.one (show Kd.M (Kd.int .i64) _ _ _ a0_4 [.int .i64 a0_4] from rfl) (Reps.one (show Kd.M (Kd.int .i64) _ _ _ (l0_3.length : Int) [.int .i64 (l0_3.length : Int)] from rfl) (Reps.none _ _)))))); intro v209 w97 ho98 hb hg_ hnew_; clear hg_ hnew_; (first | rw [← Ny208.out] at ho98 | (simp only [Int.reduceToNat] at ho98; rw [← Ny208.out] at ho98)); have n0_ := Aside0.mk (Kd.R_below (kr_ HO_3) hb); have n1_ := Aside0.mk (Kd.R_lower ho98 (below_size (bl1_ HB GE130))); have n2_ := Aside0.mk (blk_below (g := gb130) (bk_ BK130) hb); have n3_ := Aside0.mk (below_step (bl1_ HB GE130) hb); clear HO_3; clear BK130; clear HB; have HO_3 := n0_; have HO210 := n1_; have BK130 := n2_; have HB := n3_; clear n0_ n1_ n2_ n3_; clear hb ho98; obtain ⟨Ao99, co99, eo99⟩ := Kd.R_slice HO210.out; subst eo99) | ((with_reducible refine gate_callee (f := 56) rfl ?_); refine goesL_ (some 109) rfl rfl Try.func56 (by kernel_rfl) rfl #[.slice Ao99 y208.length co99] rfl ar_ ?_; (with_reducible refine (basculeref03_lay.calls kj1 _ _ y208 t211 _ ?side1 ?side2 A91.out).mono ?_); (case side1 => exact sc_ (Kd.R_reads' HO210.out).2.2); (case side2 => exact (Kd.R_reads' HO210.out).2.1); rintro e w100 ⟨v212, rfl, ho0, hb⟩; refine ⟨_, rfl, ?_⟩; have n0_ := Aside0.mk (Kd.R_elder' (kr_ HO_3) (Kd.R_base ho0) hb); have n1_ := Aside0.mk (Kd.R_below (kr_ HO210) hb); have n2_ := Aside0.mk (Kd.R_lower (Kd.R_new' ho0 (Kd.R_lt (kr_ HO_3))) (below_size (bl1_ HB GE130))); have n3_ := Aside0.mk (blk_below (g := gb130) (bk_ BK130) hb); have n4_ := Aside0.mk (below_step (bl1_ HB GE130) hb); clear HO_3; clear HO210; clear BK130; clear HB; have HO_3 := n0_; have HO210 := n1_; have HO213 := n2_; have BK130 := n3_; have HB := n4_; clear n0_ n1_ n2_ n3_ n4_; (try clear hb); (try clear hb2); (try clear hk); (try clear hi); (try clear ho0); obtain ⟨Ao102, co102, eo102⟩ := Kd.R_slice HO213.out; subst eo102) | ((with_reducible refine gate_builtin (b := .append) (xs := #[.tmp 98, .tmp 109]) rfl ?_); at_builtin; refine Kd.R_append_rows (Kd.int .u8) (w0 := w) w.heap.size rfl (.tmp 98) (.tmp 109) 58 5 (.int .u8 0) 1 rfl Try.underlying58 info5 rfl (by decide) (by omega) v132 y131 t211 _ _ _ (fun k_ => some k_ ≠ (.slice Ao102 t211.length co102 : Value).ownBlock) (fun _ => False) rfl rfl ?aO ?aR (fun _ _ h => h) (fun _ h => h.elim) ?aF ?aB ?aS ?aL ?_; (case aR => exact sc_ (Kd.R_reads' HO213.out).2.2); (case aB => exact (bl1_ HB GE130)); (case aF => exact (fun k_ hk => Kd.fresh' (Kd.R_lt (kr_ HO213)) k_ hk)); (case aO => exact (by (with_reducible repeat (first | apply Kd.R_alloc | apply Kd.R_drewN | apply Kd.R_drew)); exact Kd.R_mono HO_3.out (fun _ hk => hk.2))); (case aS => exact (below_size (bl1_ HB GE130))); (case aL => have := LMc92.out; omega); intro v215 w101 ho hb hg hat; rw [← Ny214.out] at ho; have n0_ := Aside0.mk (blk_grown (g := gb130) (bk_ BK130) hg (Kd.R_ne HO_3.out BK130.out (by decide))); have n1_ := Aside0.mk (Kd.R_over' (kr_ HO210) (Kd.R_typed (kr_ HO_3)) (by decide) hg); have n2_ := Aside0.mk (Kd.R_after (ok := (fun _ => True)) (kr_ HO213) hg hat); have n3_ := Aside0.mk (hb); have n4_ := Aside0.mk (ho); clear BK130; clear HO210; clear HO213; clear HB; clear HO_3; have BK130 := n0_; have HO210 := n1_; have HO213 := n2_; have HB := n3_; have HO216 := n4_; clear n0_ n1_ n2_ n3_ n4_; clear ho hb hg hat; refine cz7_ BK130.out ?_; intro hcz103_0 hcz103_1 hcz103_2 hcz103_3 hcz103_4 hcz103_5 hcz103_6 hfz103_0 hfz103_1 hfz103_2 hfz103_3 hfz103_4 hfz103_5 hfz103_6) | ((with_reducible refine gate_callee (f := 56) rfl ?_); refine goesL_ (some 114) rfl rfl Try.func56 (by kernel_rfl) rfl #[.slice A0_3 l0_3.length c0_3] rfl ar_ ?_; (with_reducible refine (basculeref03_lay.calls kj1 _ _ l0_3 t217 _ ?side1 ?side2 A93.out).mono ?_); (case side1 => exact sc_ (Kd.C_below HR0_3.out HB.out)); (case side2 => exact HC0_3.out); rintro e w104 ⟨v218, rfl, ho0, hb⟩; refine ⟨_, rfl, ?_⟩; have n0_ := Aside0.mk (Kd.R_below (kr_ HO210) hb); have n1_ := Aside0.mk (Kd.R_elder' (kr_ HO213) (Kd.R_base ho0) hb); have n2_ := Aside0.mk (Kd.R_elder' (kr_ HO216) (Kd.R_base ho0) hb); have n3_ := Aside0.mk (Kd.R_lower (Kd.R_new' (Kd.R_new' ho0 (Kd.R_lt (kr_ HO213))) (Kd.R_lt (kr_ HO216))) (below_size (bl1_ HB GE130))); have n4_ := Aside0.mk (blk_below (g := gb130) (bk_ BK130) hb); have n5_ := Aside0.mk (below_step (bl1_ HB GE130) hb); clear HO210; clear HO213; clear HO216; clear BK130; clear HB; have HO210 := n0_; have HO213 := n1_; have HO216 := n2_; have HO219 := n3_; have BK130 := n4_; have HB := n5_; clear n0_ n1_ n2_ n3_ n4_ n5_; (try clear hb); (try clear hb2); (try clear hk); (try clear hi); (try clear ho0); obtain ⟨Ao105, co105, eo105⟩ := Kd.R_slice HO219.out; subst eo105) | ((with_reducible refine gate_callee (f := 57) rfl ?_); refine goesL_ (some 115) rfl rfl Try.func57 (by kernel_rfl) rfl #[.slice Ao105 t217.length co105] rfl ar_ ?_; (with_reducible refine (basculeref03_counted.calls _ _ t217 t220 _ ?side1 ?side2 A94.out).mono ?_); (case side1 => exact sc_ (Kd.R_reads' HO219.out).2.2); (case side2 => exact (Kd.R_reads' HO219.out).2.1); rintro e w106 ⟨v221, rfl, ho0, hb⟩; refine ⟨_, rfl, ?_⟩; have n0_ := Aside0.mk (Kd.R_below (kr_ HO210) hb); have n1_ := Aside0.mk (Kd.R_elder' (kr_ HO213) (Kd.R_base ho0) hb); have n2_ := Aside0.mk (Kd.R_elder' (kr_ HO216) (Kd.R_base ho0) hb); have n3_ := Aside0.mk (Kd.R_elder' (kr_ HO219) (Kd.R_base ho0) hb); have n4_ := Aside0.mk (Kd.R_lower (Kd.R_new' (Kd.R_new' (Kd.R_new' ho0 (Kd.R_lt (kr_ HO213))) (Kd.R_lt (kr_ HO216))) (Kd.R_lt (kr_ HO219))) (below_size (bl1_ HB GE130))); have n5_ := Aside0.mk (blk_below (g := gb130) (bk_ BK130) hb); have n6_ := Aside0.mk (below_step (bl1_ HB GE130) hb); clear HO210; clear HO213; clear HO216; clear HO219; clear BK130; clear HB; have HO210 := n0_; have HO213 := n1_; have HO216 := n2_; have HO219 := n3_; have HO222 := n4_; have BK130 := n5_; have HB := n6_; clear n0_ n1_ n2_ n3_ n4_ n5_ n6_; (try clear hb); (try clear hb2); (try clear hk); (try clear hi); (try clear ho0); obtain ⟨Ao108, co108, eo108⟩ := Kd.R_slice HO222.out; subst eo108) | ((with_reducible refine gate_builtin (b := .append) (xs := #[.tmp 111, .tmp 115]) rfl ?_); at_builtin; refine Kd.R_append_rows (Kd.int .u8) (w0 := w) w.heap.size rfl (.tmp 111) (.tmp 115) 58 5 (.int .u8 0) 1 rfl Try.underlying58 info5 rfl (by decide) (by omega) v215 y214 t220 _ _ _ (fun k_ => some k_ ≠ (.slice Ao102 t211.length co102 : Value).ownBlock ∧ some k_ ≠ (.slice Ao105 t217.length co105 : Value).ownBlock ∧ some k_ ≠ (.slice Ao108 t220.length co108 : Value).ownBlock) (fun _ => False) rfl rfl ?aO ?aR (fun _ _ h => h) (fun _ h => h.elim) ?aF ?aB ?aS ?aL ?_; (case aR => exact sc_ (Kd.R_reads' HO222.out).2.2); (case aB => exact (bl1_ HB GE130)); (case aF => exact (fun k_ hk => ⟨Kd.fresh' (Kd.R_lt (kr_ HO213)) k_ hk, Kd.fresh' (Kd.R_lt (kr_ HO219)) k_ hk, Kd.fresh' (Kd.R_lt (kr_ HO222)) k_ hk⟩)); (case aO => exact (by (with_reducible repeat (first | apply Kd.R_alloc | apply Kd.R_drewN | apply Kd.R_drew)); exact Kd.R_mono HO216.out (fun _ hk => ⟨hk.1.1, ⟨hk.1.2, hk.2⟩⟩))); (case aS => exact (below_size (bl1_ HB GE130))); (case aL => have := LMc95.out; omega); intro v224 w107 ho hb hg hat; rw [← Ny223.out] at ho; have n0_ := Aside0.mk (blk_grown (g := gb130) (bk_ BK130) hg (Kd.R_ne HO216.out BK130.out (by decide))); have n1_ := Aside0.mk (Kd.R_over' (kr_ HO210) (Kd.R_typed (kr_ HO216)) (by decide) hg); have n2_ := Aside0.mk (Kd.R_after (ok := (fun k_ => some k_ ≠ (.slice Ao105 t217.length co105 : Value).ownBlock ∧ some k_ ≠ (.slice Ao108 t220.length co108 : Value).ownBlock)) (by (with_reducible repeat (first | apply Kd.R_alloc | apply Kd.R_drewN | apply Kd.R_drew)); exact Kd.R_mono HO213.out (fun _ hk => ⟨⟨hk.1.2, hk.2⟩, hk.1.1.2⟩)) hg hat); have n3_ := Aside0.mk (Kd.R_after (ok := (fun k_ => some k_ ≠ (.slice Ao102 t211.length co102 : Value).ownBlock ∧ some k_ ≠ (.slice Ao108 t220.length co108 : Value).ownBlock)) (by (with_reducible repeat (first | apply Kd.R_alloc | apply Kd.R_drewN | apply Kd.R_drew)); exact Kd.R_mono HO219.out (fun _ hk => ⟨⟨hk.1.1.2, hk.2⟩, hk.1.2⟩)) hg hat); have n4_ := Aside0.mk (Kd.R_after (ok := (fun k_ => some k_ ≠ (.slice Ao102 t211.length co102 : Value).ownBlock ∧ some k_ ≠ (.slice Ao105 t217.length co105 : Value).ownBlock)) (by (with_reducible repeat (first | apply Kd.R_alloc | apply Kd.R_drewN | apply Kd.R_drew)); exact Kd.R_mono HO222.out (fun _ hk => ⟨⟨hk.1.1.2, hk.2⟩, hk.1.2⟩)) hg hat); have n5_ := Aside0.mk (hb); have n6_ := Aside0.mk (ho); clear BK130; clear HO210; clear HO213; clear HO219; clear HO222; clear HB; clear HO216; have BK130 := n0_; have HO210 := n1_; have HO213 := n2_; have HO219 := n3_; have HO222 := n4_; have HB := n5_; have HO225 := n6_; clear n0_ n1_ n2_ n3_ n4_ n5_ n6_; clear ho hb hg hat))
           go_ret
           exact ⟨_, er_, by (with_reducible repeat (first | apply Kd.R_alloc | apply Kd.R_drewN | apply Kd.R_drew)); exact Kd.R_mono HO225.out (fun _ hk => trivial), bl1_ HB GE130⟩
          ·rw [if_neg c95] at H
           exact absurd H (by simp)
         ·rw [if_neg c92] at H
          exact absurd H (by simp)
end Go.Proofs.Ytocicifgglkaeaa.PR
end

section
namespace Go.Proofs.Ytocicifgglkaeaa.Mth
open Go.RowKit Go.Proofs.YtocicifgglkaeaaW.PrintWords Go.Proofs.YtocicifgglkaeaaW.PrintLast Go.Proofs.YtocicifgglkaeaaW.PrintMore Go.Proofs.Ytocicifgglkaeaa.Ext Go.Proofs.Ytocicifgglkaeaa.ExtF Go.Proofs.Ytocicifgglkaeaa.PP Go.Proofs.Ytocicifgglkaeaa.PQ Go.Proofs.Ytocicifgglkaeaa.ExtM Go.Proofs.Ytocicifgglkaeaa.MathP Go.Proofs.Ytocicifgglkaeaa.PR
set_option linter.unusedVariables false
set_option linter.unusedSimpArgs false
theorem within_f (a lo hi : Int) : pdu_within.f a lo hi = some (decide (lo ≤ a ∧ a ≤ hi)) := by
 unfold pdu_within.f
 by_cases h : a ≥ lo
 ·rw [if_pos h]; exact congrArg some (decide_eq_decide.2 (by omega))
 ·rw [if_neg h]; exact congrArg some (decide_eq_false (by omega)).symm
theorem pspan_f (a n : Int) : pdu_span.f a n = some (spanB a n) := by
 unfold pdu_span.f
 rw [within_f, Option.bind_some]
 unfold spanB
 by_cases h : 0 ≤ a ∧ a ≤ 65535
 ·rw [if_pos (by rw [decide_eq_true_eq]; exact h), wrap64_id _ (by omega) (by omega)]; exact congrArg some (decide_eq_decide.2 (by omega))
 ·rw [if_neg (by rw [decide_eq_true_eq]; exact h)]; exact congrArg some (decide_eq_false (by omega)).symm
def Low (m : Int) (l : List Int) : Prop := ∀ x ∈ l, 0 ≤ x ∧ x ≤ m
instance (m : Int) (l : List Int) : Decidable (Low m l) := by unfold Low; infer_instance
theorem all_l0 (l : List Int) (m : Int) (hl : l.length ≤ 1000000000000) : ∀ (d i k : Nat), i + d = l.length → d + 1 ≤ k → pdu_all.l0 k m l (l.length : Int) (i : Int) = some (decide (Low m (l.drop i)))
 | 0, i, k, hi, hk => by
  obtain ⟨k, rfl⟩ := Nat.exists_eq_add_of_le' (show 1 ≤ k by omega)
  unfold pdu_all.l0
  rw [if_neg (by omega), List.drop_of_length_le (by omega)]
  exact congrArg some (decide_eq_true (fun x hx => by cases hx)).symm
 | d + 1, i, k, hi, hk => by
  obtain ⟨k, rfl⟩ := Nat.exists_eq_add_of_le' (show 1 ≤ k by omega)
  have hw : wrap64 ((i : Int) + 1) = ((i + 1 : Nat) : Int) := by rw [wrap64_id _ (by omega) (by omega)]; omega
  have hlt : i < l.length := by omega
  have hrd : rd l (i : Int) = l[i] := by simp [rd, List.getElem?_eq_getElem hlt]
  have hcons : l.drop i = l[i] :: l.drop (i + 1) := List.drop_eq_getElem_cons hlt
  unfold pdu_all.l0
  rw [if_pos (by omega), if_pos (by omega), if_pos (by omega), hw, within_f, Option.bind_some, hrd, hcons]
  have e : Low m (l[i] :: l.drop (i + 1)) ↔ (0 ≤ l[i] ∧ l[i] ≤ m) ∧ Low m (l.drop (i + 1)) := List.forall_mem_cons
  by_cases h : 0 ≤ l[i] ∧ l[i] ≤ m
  ·rw [if_pos (by rw [decide_eq_true_eq]; exact h), all_l0 l m hl d (i + 1) k (by omega) (by omega)]
   congr 1; rw [decide_eq_decide, e]; exact ⟨fun x => ⟨h, x⟩, fun x => x.2⟩
  ·rw [if_neg (by rw [decide_eq_true_eq]; exact h)]
   congr 1; rw [eq_comm, decide_eq_false_iff_not, e]; exact fun x => h x.1
theorem all_f (l : List Int) (m : Int) (hl : l.length ≤ 1000000000000) (k : Nat) (hk : l.length + 1 ≤ k) : pdu_all.f k l m = some (decide (Low m l)) := by
 have := all_l0 l m hl l.length 0 k (by omega) (by omega)
 unfold pdu_all.f
 rw [List.drop_zero] at this
 exact this
theorem low_one (l : List Int) : Low 1 l ↔ Bits l := by
 unfold Low Bits
 exact ⟨fun h x hx => by have := h x hx; omega, fun h x hx => by have := h x hx; omega⟩
theorem some_bit (l : List Int) (lo hi : Nat) (hl : l.length ≤ 1000000000000) (k : Nat) (hk : l.length + 1 ≤ k) : pdu_some.f k l (lo : Int) (hi : Int) 1 = some (valB true l lo hi) := by
 unfold pdu_some.f valB
 rw [within_f, Option.bind_some]
 by_cases h : lo ≤ l.length ∧ l.length ≤ hi
 ·rw [if_pos (by rw [decide_eq_true_eq]; omega), all_f l 1 hl k hk, Option.bind_some, decide_eq_true h, Bool.true_and, if_pos rfl]
  congr 1; rw [decide_eq_decide]; exact low_one l
 ·rw [if_neg (by rw [decide_eq_true_eq]; omega), decide_eq_false h, Bool.false_and]
theorem some_word (l : List Int) (lo hi : Nat) (hl : l.length ≤ 1000000000000) (k : Nat) (hk : l.length + 1 ≤ k) : pdu_some.f k l (lo : Int) (hi : Int) 65535 = some (valB false l lo hi) := by
 unfold pdu_some.f valB
 rw [within_f, Option.bind_some]
 by_cases h : lo ≤ l.length ∧ l.length ≤ hi
 ·rw [if_pos (by rw [decide_eq_true_eq]; omega), all_f l 65535 hl k hk, Option.bind_some, decide_eq_true h, Bool.true_and, if_neg (by decide)]
  congr 1
 ·rw [if_neg (by rw [decide_eq_true_eq]; omega), decide_eq_false h, Bool.false_and]
theorem beq_dec (a b : Int) : (a == b) = decide (a = b) := by rw [Bool.eq_iff_iff]; simp
def plainB (a4 a5 a6 : Int) : Bool := (a4 == 0) && ((a5 == 0) && (a6 == 0))
theorem check_plain (k : Nat) (fn a1 a2 : Int) (l : List Int) (a4 a5 a6 : Int) : pdu_Check.f k fn a1 a2 l a4 a5 a6 = pdu_Check.j0 k false (l.length : Int) (plainB a4 a5 a6) fn a1 a2 l a4 a5 a6 := by
 unfold pdu_Check.f plainB
 by_cases h4 : a4 = 0
 ·subst h4
  by_cases h5 : a5 = 0
  ·subst h5; rfl
  ·rw [if_pos rfl, if_neg h5, show (a5 == 0) = false from beq_eq_false_iff_ne.2 h5]; rfl
 ·rw [if_neg h4, show (a4 == 0) = false from beq_eq_false_iff_ne.2 h4]; rfl
def chk (b : Bool) : Option Int := some (if b then 0 else 1)
theorem chk_and (c d : Bool) : chk (c && d) = if c = true then chk d else some 1 := by cases c <;> rfl
theorem chk_if (p : Prop) [Decidable p] (d : Bool) : chk (decide p && d) = if p then chk d else some 1 := by by_cases h : p <;> simp [h, chk]
def mayP (fn a1 a2 : Int) (l : List Int) (a4 a5 a6 : Int) : Bool :=
 if fn = 1 ∨ fn = 2 then plainB a4 a5 a6 && (decide ((l.length : Int) = 0) && (decide (1 ≤ a2 ∧ a2 ≤ 2000) && (spanB a1 a2 && true)))
 else if fn = 3 ∨ fn = 4 then plainB a4 a5 a6 && (decide ((l.length : Int) = 0) && (decide (1 ≤ a2 ∧ a2 ≤ 125) && (spanB a1 a2 && true)))
 else if fn = 5 then plainB a4 a5 a6 && (decide (a2 = 0) && (valB true l 1 1 && (spanB a1 1 && true)))
 else if fn = 6 then plainB a4 a5 a6 && (decide (a2 = 0) && (valB false l 1 1 && (spanB a1 1 && true)))
 else if fn = 15 then plainB a4 a5 a6 && (decide (a2 = (l.length : Int)) && (valB true l 1 1968 && (spanB a1 (l.length : Int) && true)))
 else if fn = 16 then plainB a4 a5 a6 && (decide (a2 = (l.length : Int)) && (valB false l 1 123 && (spanB a1 (l.length : Int) && true)))
 else if fn = 22 then decide ((l.length : Int) = 0) && (decide (a4 = 0) && (decide (a2 = 0) && (spanB a1 1 && (decide (Low 65535 [a5, a6]) && true))))
 else if fn = 23 then decide (a5 = 0) && (decide (a6 = 0) && (decide (1 ≤ a2 ∧ a2 ≤ 125) && (spanB a1 a2 && (valB false l 1 121 && (spanB a4 (l.length : Int) && true)))))
 else false
theorem low_two (a b : Int) : decide (Low 65535 [a, b]) = (isB a && isB b) := by
 unfold isB
 rw [← Bool.decide_and, decide_eq_decide]
 simp [Low]
theorem mayP_eq (fn a1 a2 : Int) (l : List Int) (a4 a5 a6 : Int) : mayP fn a1 a2 l a4 a5 a6 = mayB fn a1 a2 l a4 a5 a6 := by
 unfold mayP mayB plainB
 rw [low_two]
 simp only [Bool.decide_and, ← beq_dec, Bool.and_true]
 split
 ·rw [Bool.eq_iff_iff]; simp only [Bool.and_eq_true]; constructor <;> (intro h; simp_all)
 split
 ·rw [Bool.eq_iff_iff]; simp only [Bool.and_eq_true]; constructor <;> (intro h; simp_all)
 split
 ·rw [Bool.eq_iff_iff]; simp only [Bool.and_eq_true]; constructor <;> (intro h; simp_all)
 split
 ·rw [Bool.eq_iff_iff]; simp only [Bool.and_eq_true]; constructor <;> (intro h; simp_all)
 split
 ·rw [Bool.eq_iff_iff]; simp only [Bool.and_eq_true]; constructor <;> (intro h; simp_all)
 split
 ·rw [Bool.eq_iff_iff]; simp only [Bool.and_eq_true]; constructor <;> (intro h; simp_all)
 split
 ·rw [Bool.eq_iff_iff]; simp only [Bool.and_eq_true]; constructor <;> (intro h; simp_all)
 split
 ·rw [Bool.eq_iff_iff]; simp only [Bool.and_eq_true]; constructor <;> (intro h; simp_all)
 rfl
theorem check_f (k : Nat) (fn a1 a2 : Int) (l : List Int) (a4 a5 a6 : Int) (hl : l.length ≤ 1000000000000) (hk : l.length + 10 ≤ k) :
 pdu_Check.f k fn a1 a2 l a4 a5 a6 = some (if mayB fn a1 a2 l a4 a5 a6 then 0 else 1) := by
 rw [check_plain, ← mayP_eq]
 obtain ⟨k, rfl⟩ : ∃ m, k = m + 1 + 1 + 1 := ⟨k - 3, by omega⟩
 show _ = chk _
 have hA : pdu_all.f k [a5, a6] 65535 = some (decide (Low 65535 [a5, a6])) := all_f [a5, a6] 65535 (by simp) k (by simp; omega)
 have b1 := some_bit l 1 1 hl k (by omega)
 have w1 := some_word l 1 1 hl k (by omega)
 have b2 := some_bit l 1 1968 hl k (by omega)
 have w2 := some_word l 1 123 hl k (by omega)
 have w3 := some_word l 1 121 hl k (by omega)
 rw [pdu_Check.j0]
 by_cases c1 : fn = 1
 ·subst c1
  rw [if_pos rfl, pdu_Check.j1, if_pos (show ((1 : Int) == 1) = true from rfl), within_f, Option.bind_some, pspan_f, Option.bind_some]
  show _ = chk (plainB a4 a5 a6 && (decide ((l.length : Int) = 0) && (decide (1 ≤ a2 ∧ a2 ≤ 2000) && (spanB a1 a2 && true))))
  rw [chk_and, chk_if, chk_and, chk_and]
  rfl
 by_cases c2 : fn = 2
 ·subst c2
  rw [if_neg (show ¬ ((2 : Int) = 1) by decide), pdu_Check.j1, if_pos (show ((2 : Int) == 2) = true from rfl), within_f, Option.bind_some, pspan_f, Option.bind_some]
  show _ = chk (plainB a4 a5 a6 && (decide ((l.length : Int) = 0) && (decide (1 ≤ a2 ∧ a2 ≤ 2000) && (spanB a1 a2 && true))))
  rw [chk_and, chk_if, chk_and, chk_and]
  rfl
 rw [if_neg c1, beq_eq_false_iff_ne.2 c2, pdu_Check.j1, if_neg Bool.false_ne_true]
 by_cases c3 : fn = 3
 ·subst c3
  rw [if_pos rfl, pdu_Check.j2, if_pos (show ((3 : Int) == 3) = true from rfl), within_f, Option.bind_some, pspan_f, Option.bind_some]
  show _ = chk (plainB a4 a5 a6 && (decide ((l.length : Int) = 0) && (decide (1 ≤ a2 ∧ a2 ≤ 125) && (spanB a1 a2 && true))))
  rw [chk_and, chk_if, chk_and, chk_and]
  rfl
 by_cases c4 : fn = 4
 ·subst c4
  rw [if_neg (show ¬ ((4 : Int) = 3) by decide), pdu_Check.j2, if_pos (show ((4 : Int) == 4) = true from rfl), within_f, Option.bind_some, pspan_f, Option.bind_some]
  show _ = chk (plainB a4 a5 a6 && (decide ((l.length : Int) = 0) && (decide (1 ≤ a2 ∧ a2 ≤ 125) && (spanB a1 a2 && true))))
  rw [chk_and, chk_if, chk_and, chk_and]
  rfl
 rw [if_neg c3, beq_eq_false_iff_ne.2 c4, pdu_Check.j2, if_neg Bool.false_ne_true]
 by_cases c5 : fn = 5
 ·subst c5
  rw [if_pos rfl, show pdu_some.f k l 1 1 1 = _ from b1, Option.bind_some, pspan_f, Option.bind_some]
  show _ = chk (plainB a4 a5 a6 && (decide (a2 = 0) && (valB true l 1 1 && (spanB a1 1 && true))))
  rw [chk_and, chk_if, chk_and, chk_and]
  rfl
 rw [if_neg c5]
 by_cases c6 : fn = 6
 ·subst c6
  rw [if_pos rfl, show pdu_some.f k l 1 1 65535 = _ from w1, Option.bind_some, pspan_f, Option.bind_some]
  show _ = chk (plainB a4 a5 a6 && (decide (a2 = 0) && (valB false l 1 1 && (spanB a1 1 && true))))
  rw [chk_and, chk_if, chk_and, chk_and]
  rfl
 rw [if_neg c6]
 by_cases c15 : fn = 15
 ·subst c15
  rw [if_pos rfl, show pdu_some.f k l 1 1968 1 = _ from b2, Option.bind_some, pspan_f, Option.bind_some]
  show _ = chk (plainB a4 a5 a6 && (decide (a2 = (l.length : Int)) && (valB true l 1 1968 && (spanB a1 (l.length : Int) && true))))
  rw [chk_and, chk_if, chk_and, chk_and]
  rfl
 rw [if_neg c15]
 by_cases c16 : fn = 16
 ·subst c16
  rw [if_pos rfl, show pdu_some.f k l 1 123 65535 = _ from w2, Option.bind_some, pspan_f, Option.bind_some]
  show _ = chk (plainB a4 a5 a6 && (decide (a2 = (l.length : Int)) && (valB false l 1 123 && (spanB a1 (l.length : Int) && true))))
  rw [chk_and, chk_if, chk_and, chk_and]
  rfl
 rw [if_neg c16]
 by_cases c22 : fn = 22
 ·subst c22
  rw [if_pos rfl, pspan_f, Option.bind_some, hA, Option.bind_some]
  show _ = chk (decide ((l.length : Int) = 0) && (decide (a4 = 0) && (decide (a2 = 0) && (spanB a1 1 && (decide (Low 65535 [a5, a6]) && true)))))
  rw [chk_if, chk_if, chk_if, chk_and, chk_and]
  rfl
 rw [if_neg c22]
 by_cases c23 : fn = 23
 ·subst c23
  rw [if_pos rfl, within_f, Option.bind_some, pspan_f, Option.bind_some, show pdu_some.f k l 1 121 65535 = _ from w3, Option.bind_some, pspan_f, Option.bind_some]
  show _ = chk (decide (a5 = 0) && (decide (a6 = 0) && (decide (1 ≤ a2 ∧ a2 ≤ 125) && (spanB a1 a2 && (valB false l 1 121 && (spanB a4 (l.length : Int) && true))))))
  rw [chk_if, chk_if, chk_and, chk_and, chk_and, chk_and]
  rfl
 rw [if_neg c23, if_neg Bool.false_ne_true]
 unfold mayP
 rw [if_neg (by omega), if_neg (by omega), if_neg c5, if_neg c6, if_neg c15, if_neg c16, if_neg c22, if_neg c23]
 rfl
end Go.Proofs.Ytocicifgglkaeaa.Mth
end

section
namespace Go.Proofs.Ytocicifgglkaeaa.Mth
open Go.RowKit Go.Proofs.YtocicifgglkaeaaW.PrintWords Go.Proofs.YtocicifgglkaeaaW.PrintLast Go.Proofs.YtocicifgglkaeaaW.PrintMore Go.Proofs.Ytocicifgglkaeaa.Ext Go.Proofs.Ytocicifgglkaeaa.ExtF Go.Proofs.Ytocicifgglkaeaa.PP Go.Proofs.Ytocicifgglkaeaa.PQ Go.Proofs.Ytocicifgglkaeaa.ExtM Go.Proofs.Ytocicifgglkaeaa.MathP Go.Proofs.Ytocicifgglkaeaa.PR
set_option linter.unusedVariables false
set_option linter.unusedSimpArgs false
def tailB (fn a2 : Int) (l : List Int) (a4 a5 a6 : Int) : List Int :=
 if fn = 5 then lays [65280 * rd l 0]
 else if fn = 6 then lays [rd l 0]
 else if fn = 22 then lays [a5, a6]
 else if fn = 15 then lays [a2] ++ (((packs l).length : Int) % 256 :: packs l)
 else if fn = 23 then lays [a2, a4, (l.length : Int)] ++ (((lays l).length : Int) % 256 :: lays l)
 else if fn = 16 then lays [a2] ++ (((lays l).length : Int) % 256 :: lays l)
 else lays [a2]
def reqB (fn a1 a2 : Int) (l : List Int) (a4 a5 a6 : Int) : List Int := ([fn % 256] ++ lays [a1]) ++ tailB fn a2 l a4 a5 a6
theorem lay_f (l m : List Int) (h : m ≠ []) (hw : Words m) (h0 : l.length ≤ 100000000) (h1 : m.length ≤ 100000000) : pdu_lay.f l m = some (l ++ lays m) := by
 unfold pdu_lay.f
 rw [if_pos ⟨h, hw, h0, h1⟩]
theorem words1 {a : Int} (h : 0 ≤ a ∧ a ≤ 65535) : Words [a] := by intro x hx; simp only [List.mem_singleton] at hx; subst hx; exact h
theorem words2 {a b : Int} (h : 0 ≤ a ∧ a ≤ 65535) (h2 : 0 ≤ b ∧ b ≤ 65535) : Words [a, b] := by
 intro x hx; simp only [List.mem_cons, List.not_mem_nil, or_false] at hx; rcases hx with rfl | rfl <;> assumption
theorem words3 {a b c : Int} (h : 0 ≤ a ∧ a ≤ 65535) (h2 : 0 ≤ b ∧ b ≤ 65535) (h3 : 0 ≤ c ∧ c ≤ 65535) : Words [a, b, c] := by
 intro x hx; simp only [List.mem_cons, List.not_mem_nil, or_false] at hx; rcases hx with rfl | rfl | rfl <;> assumption
theorem words4 {a b c d : Int} (h : 0 ≤ a ∧ a ≤ 65535) (h2 : 0 ≤ b ∧ b ≤ 65535) (h3 : 0 ≤ c ∧ c ≤ 65535) (h4 : 0 ≤ d ∧ d ≤ 65535) : Words [a, b, c, d] := by
 intro x hx; simp only [List.mem_cons, List.not_mem_nil, or_false] at hx; rcases hx with rfl | rfl | rfl | rfl <;> assumption
theorem pcounted_f (l m : List Int) (h0 : l.length ≤ 100000000) (h1 : m.length ≤ 100000000) : PQ.pdu_counted.f l m = some (l ++ ((m.length : Int) % 256 :: m)) := by
 unfold PQ.pdu_counted.f
 rw [if_pos (by omega), Option.bind_some, if_pos (by simp; omega)]
 simp
theorem packs_len (l : List Int) : (packs l).length = (l.length + 7) / 8 := by simp [packs]
theorem ppacked_f (l : List Int) (hb : Bits l) (hl : l.length ≤ 1000000000000) (k : Nat) (hk : l.length + 1 ≤ k) : pdu_packed.f k l = some (packs l) := by
 unfold pdu_packed.f
 rw [pack_yes l hb hl k hk, Option.bind_some]
structure MayIs (fn a1 a2 : Int) (l : List Int) (a4 a5 a6 : Int) : Prop where
 addr : 0 ≤ a1 ∧ a1 ≤ 65535
 fns : fn = 1 ∨ fn = 2 ∨ fn = 3 ∨ fn = 4 ∨ fn = 5 ∨ fn = 6 ∨ fn = 15 ∨ fn = 16 ∨ fn = 22 ∨ fn = 23
 len : l.length ≤ 1968
 nov : fn = 1 ∨ fn = 2 ∨ fn = 3 ∨ fn = 4 ∨ fn = 22 → l = []
 cnt : fn = 1 ∨ fn = 2 ∨ fn = 3 ∨ fn = 4 ∨ fn = 23 → 1 ≤ a2 ∧ a2 ≤ 2000
 regs : fn = 3 ∨ fn = 4 ∨ fn = 23 → a2 ≤ 125
 cnt0 : fn = 5 ∨ fn = 6 ∨ fn = 22 → a2 = 0
 cntl : fn = 15 ∨ fn = 16 → a2 = (l.length : Int)
 one : fn = 5 ∨ fn = 6 → l.length = 1
 bits : fn = 5 ∨ fn = 15 → Bits l
 wrds : fn = 6 ∨ fn = 16 ∨ fn = 23 → Words l
 many : fn = 15 ∨ fn = 16 ∨ fn = 23 → 1 ≤ l.length
 most : fn = 16 ∨ fn = 23 → l.length ≤ 123
 to0 : fn ≠ 23 → a4 = 0
 tow : 0 ≤ a4 ∧ a4 ≤ 65535
 m0 : fn ≠ 22 → a5 = 0 ∧ a6 = 0
 m : (0 ≤ a5 ∧ a5 ≤ 65535) ∧ (0 ≤ a6 ∧ a6 ≤ 65535)
theorem valB_true {bit : Bool} {l : List Int} {lo hi : Nat} (h : valB bit l lo hi = true) : (lo ≤ l.length ∧ l.length ≤ hi) ∧ (bit = true → Bits l) ∧ (bit = false → Words l) := by
 unfold valB at h
 rw [Bool.and_eq_true, decide_eq_true_eq] at h
 refine ⟨h.1, fun e => ?_, fun e => ?_⟩ <;> (subst e; simpa using h.2)
theorem may_is {fn a1 a2 : Int} {l : List Int} {a4 a5 a6 : Int} (h : mayB fn a1 a2 l a4 a5 a6 = true) : MayIs fn a1 a2 l a4 a5 a6 := by
 unfold mayB at h
 split at h
 ·next c =>
  simp only [Bool.and_eq_true, beq_iff_eq, decide_eq_true_eq, spanB] at h
  obtain ⟨⟨⟨⟨⟨hn, h5, h6⟩, h4⟩, h1⟩, h2⟩, h3⟩ := h
  obtain rfl : l = [] := List.length_eq_zero_iff.1 (by omega)
  exact ⟨by omega, by omega, by simp, fun _ => rfl, fun _ => by omega, fun _ => by omega, fun _ => by omega, fun _ => by omega, fun _ => by omega, fun _ _ hx => (List.not_mem_nil hx).elim, fun _ _ hx => (List.not_mem_nil hx).elim, fun _ => by omega, fun _ => by simp, fun _ => h4, by omega, fun _ => ⟨h5, h6⟩, by omega⟩
 split at h
 ·next c0 c =>
  simp only [Bool.and_eq_true, beq_iff_eq, decide_eq_true_eq, spanB] at h
  obtain ⟨⟨⟨⟨⟨hn, h5, h6⟩, h4⟩, h1⟩, h2⟩, h3⟩ := h
  obtain rfl : l = [] := List.length_eq_zero_iff.1 (by omega)
  exact ⟨by omega, by omega, by simp, fun _ => rfl, fun _ => by omega, fun _ => by omega, fun _ => by omega, fun _ => by omega, fun _ => by omega, fun _ _ hx => (List.not_mem_nil hx).elim, fun _ _ hx => (List.not_mem_nil hx).elim, fun _ => by omega, fun _ => by simp, fun _ => h4, by omega, fun _ => ⟨h5, h6⟩, by omega⟩
 split at h
 ·next c0 c1 c =>
  simp only [Bool.and_eq_true, beq_iff_eq, decide_eq_true_eq, spanB] at h
  obtain ⟨⟨⟨⟨⟨h5, h6⟩, h4⟩, h2⟩, hv⟩, h3⟩ := h
  obtain ⟨hl, hb, _⟩ := valB_true hv
  exact ⟨by omega, by omega, by omega, fun _ => by omega, fun _ => by omega, fun _ => by omega, fun _ => by omega, fun _ => by omega, fun _ => by omega, fun _ => hb rfl, fun _ => by omega, fun _ => by omega, fun _ => by omega, fun _ => h4, by omega, fun _ => ⟨h5, h6⟩, by omega⟩
 split at h
 ·next c0 c1 c2 c =>
  simp only [Bool.and_eq_true, beq_iff_eq, decide_eq_true_eq, spanB] at h
  obtain ⟨⟨⟨⟨⟨h5, h6⟩, h4⟩, h2⟩, hv⟩, h3⟩ := h
  obtain ⟨hl, _, hb⟩ := valB_true hv
  exact ⟨by omega, by omega, by omega, fun _ => by omega, fun _ => by omega, fun _ => by omega, fun _ => by omega, fun _ => by omega, fun _ => by omega, fun _ => by omega, fun _ => hb rfl, fun _ => by omega, fun _ => by omega, fun _ => h4, by omega, fun _ => ⟨h5, h6⟩, by omega⟩
 split at h
 ·next c0 c1 c2 c3 c =>
  simp only [Bool.and_eq_true, beq_iff_eq, decide_eq_true_eq, spanB] at h
  obtain ⟨⟨⟨⟨⟨h5, h6⟩, h4⟩, h2⟩, hv⟩, h3⟩ := h
  obtain ⟨hl, hb, _⟩ := valB_true hv
  exact ⟨by omega, by omega, by omega, fun _ => by omega, fun _ => by omega, fun _ => by omega, fun _ => by omega, fun _ => h2, fun _ => by omega, fun _ => hb rfl, fun _ => by omega, fun _ => by omega, fun _ => by omega, fun _ => h4, by omega, fun _ => ⟨h5, h6⟩, by omega⟩
 split at h
 ·next c0 c1 c2 c3 c4 c =>
  simp only [Bool.and_eq_true, beq_iff_eq, decide_eq_true_eq, spanB] at h
  obtain ⟨⟨⟨⟨⟨h5, h6⟩, h4⟩, h2⟩, hv⟩, h3⟩ := h
  obtain ⟨hl, _, hb⟩ := valB_true hv
  exact ⟨by omega, by omega, by omega, fun _ => by omega, fun _ => by omega, fun _ => by omega, fun _ => by omega, fun _ => h2, fun _ => by omega, fun _ => by omega, fun _ => hb rfl, fun _ => by omega, fun _ => by omega, fun _ => h4, by omega, fun _ => ⟨h5, h6⟩, by omega⟩
 split at h
 ·next c0 c1 c2 c3 c4 c5 c =>
  simp only [Bool.and_eq_true, beq_iff_eq, decide_eq_true_eq, spanB, isB] at h
  obtain ⟨⟨⟨⟨⟨hn, h4⟩, h2⟩, h3⟩, h5⟩, h6⟩ := h
  obtain rfl : l = [] := List.length_eq_zero_iff.1 (by omega)
  exact ⟨by omega, by omega, by simp, fun _ => rfl, fun _ => by omega, fun _ => by omega, fun _ => by omega, fun _ => by omega, fun _ => by omega, fun _ _ hx => (List.not_mem_nil hx).elim, fun _ _ hx => (List.not_mem_nil hx).elim, fun _ => by omega, fun _ => by simp, fun _ => h4, by omega, fun _ => by omega, by omega⟩
 split at h
 ·next c0 c1 c2 c3 c4 c5 c6 c =>
  simp only [Bool.and_eq_true, beq_iff_eq, decide_eq_true_eq, spanB, isB] at h
  obtain ⟨⟨⟨⟨⟨⟨h5, h6⟩, h1⟩, h2⟩, h3⟩, hv⟩, h7⟩ := h
  obtain ⟨hl, _, hb⟩ := valB_true hv
  exact ⟨by omega, by omega, by omega, fun _ => by omega, fun _ => by omega, fun _ => by omega, fun _ => by omega, fun _ => by omega, fun _ => by omega, fun _ => by omega, fun _ => hb rfl, fun _ => by omega, fun _ => by omega, fun _ => by omega, by omega, fun _ => ⟨h5, h6⟩, by omega⟩
 ·cases h
theorem bytes_no (k : Nat) (fn a1 a2 : Int) (l : List Int) (a4 a5 a6 : Int) (hl : l.length ≤ 1000000000000) (hk : l.length + 10 ≤ k) (h : mayB fn a1 a2 l a4 a5 a6 = false) :
 pdu_Bytes.f k fn a1 a2 l a4 a5 a6 = some ([], 1) := by
 unfold pdu_Bytes.f
 rw [check_f k fn a1 a2 l a4 a5 a6 hl hk, h, Option.bind_some, if_neg (by decide)]
 rfl
theorem bytes_yes (k : Nat) (fn a1 a2 : Int) (l : List Int) (a4 a5 a6 : Int) (hk : 3000 ≤ k) (h : mayB fn a1 a2 l a4 a5 a6 = true) :
 pdu_Bytes.f k fn a1 a2 l a4 a5 a6 = some (reqB fn a1 a2 l a4 a5 a6, 0) := by
 have I := may_is h
 have hlen := I.len
 unfold pdu_Bytes.f
 rw [check_f k fn a1 a2 l a4 a5 a6 (by omega) (by omega), h, Option.bind_some, if_pos (by decide), lay_f _ [a1] (by simp) (words1 I.addr) (by simp) (by simp), Option.bind_some]
 unfold reqB
 have hl2 : ([fn % 256] ++ lays [a1]).length ≤ 100 := by simp [lays_len]
 generalize ([fn % 256] ++ lays [a1]) = p at *
 unfold tailB
 by_cases c5 : fn = 5
 ·have h1 := I.one (Or.inl c5)
  have hb := bits_rd (I.bits (Or.inl c5)) 0
  have hw : wrap64 (65280 * rd l 0) = 65280 * rd l 0 := wrap64_id _ (by omega) (by omega)
  rw [if_pos c5, if_pos c5, if_pos (by omega), hw, lay_f _ _ (by simp) (words1 (by omega)) (by omega) (by simp), Option.bind_some]
 rw [if_neg c5, if_neg c5]
 by_cases c6 : fn = 6
 ·have h1 := I.one (Or.inr c6)
  have hb : 0 ≤ rd l 0 ∧ rd l 0 ≤ 65535 := by
   have hlt : 0 < l.length := by omega
   have hrd : rd l 0 = l[0] := by simp [rd, List.getElem?_eq_getElem hlt]
   rw [hrd]; exact I.wrds (Or.inl c6) _ (List.getElem_mem hlt)
  rw [if_pos c6, if_pos c6, if_pos (by omega), lay_f _ _ (by simp) (words1 hb) (by omega) (by simp), Option.bind_some]
 rw [if_neg c6, if_neg c6]
 by_cases c22 : fn = 22
 ·rw [if_pos c22, if_pos c22, lay_f _ _ (by simp) (words2 I.m.1 I.m.2) (by omega) (by simp), Option.bind_some]
 rw [if_neg c22, if_neg c22]
 by_cases c15 : fn = 15
 ·have hc := I.cntl (Or.inl c15)
  rw [if_pos c15, if_pos c15, lay_f _ [a2] (by simp) (words1 (by omega)) (by omega) (by simp), Option.bind_some, ppacked_f l (I.bits (Or.inr c15)) (by omega) k (by omega), Option.bind_some, pcounted_f _ _ (by simp [lays_len]; omega) (by rw [packs_len]; omega), Option.bind_some, List.append_assoc]
 rw [if_neg c15, if_neg c15]
 by_cases c23 : fn = 23
 ·have hc := I.cnt (by omega)
  have hm := I.many (by omega)
  have hne : l ≠ [] := by intro e; rw [e] at hm; simp at hm
  rw [if_pos c23, if_pos c23, lay_f _ [a2, a4, (l.length : Int)] (by simp) (words3 (by omega) I.tow (by omega)) (by omega) (by simp), Option.bind_some, lay_f [] l hne (I.wrds (by omega)) (by simp) (by omega), Option.bind_some, List.nil_append, pcounted_f _ _ (by simp [lays_len]; omega) (by rw [lays_len]; omega), Option.bind_some, List.append_assoc]
 rw [if_neg c23, if_neg c23]
 by_cases c16 : fn = 16
 ·have hc := I.cntl (Or.inr c16)
  have hm := I.many (by omega)
  have hne : l ≠ [] := by intro e; rw [e] at hm; simp at hm
  rw [if_pos c16, if_pos c16, lay_f _ [a2] (by simp) (words1 (by omega)) (by omega) (by simp), Option.bind_some, lay_f [] l hne (I.wrds (by omega)) (by simp) (by omega), Option.bind_some, List.nil_append, pcounted_f _ _ (by simp [lays_len]; omega) (by rw [lays_len]; omega), Option.bind_some, List.append_assoc]
 rw [if_neg c16, if_neg c16]
 have hc := I.cnt (by have := I.fns; omega)
 rw [lay_f _ [a2] (by simp) (words1 (by omega)) (by omega) (by simp), Option.bind_some]
theorem rword_f (a : Int) (h : 0 ≤ a ∧ a ≤ 65535) : basculeref01_Word.f a = some [a / 256, a % 256] := by
 unfold basculeref01_Word.f
 rw [Int.tdiv_eq_ediv_of_nonneg (by omega), Int.tmod_eq_emod_of_nonneg (by omega), wrap64_id _ (by omega) (by omega), show a / 256 % 256 = a / 256 from by omega, show a % 256 % 256 = a % 256 from by omega]
theorem rlay_l0 (l : List Int) (hw : Words l) (hl : l.length ≤ 1000000000) : ∀ (d i k : Nat), i + d = l.length → d + 1 ≤ k → basculeref03_lay.l0 k l (lays (l.take i)) (i : Int) = some (lays l)
 | 0, i, k, hi, hk => by
  obtain ⟨k, rfl⟩ := Nat.exists_eq_add_of_le' (show 1 ≤ k by omega)
  unfold basculeref03_lay.l0
  rw [if_neg (by omega), List.take_of_length_le (by omega)]
 | d + 1, i, k, hi, hk => by
  obtain ⟨k, rfl⟩ := Nat.exists_eq_add_of_le' (show 1 ≤ k by omega)
  have hwr : wrap64 ((i : Int) + 1) = ((i + 1 : Nat) : Int) := by rw [wrap64_id _ (by omega) (by omega)]; omega
  have hlt : i < l.length := by omega
  have hrd : rd l (i : Int) = l[i] := by simp [rd, List.getElem?_eq_getElem hlt]
  unfold basculeref03_lay.l0
  rw [if_pos (by omega), if_pos (by omega), hrd, rword_f _ (hw _ (List.getElem_mem hlt)), Option.bind_some, if_pos (by rw [lays_len, List.length_take]; simp; omega), hwr, ← lays_snoc, ← List.take_succ_eq_append_getElem hlt]
  exact rlay_l0 l hw hl d (i + 1) k (by omega) (by omega)
theorem rlay_f (l : List Int) (hw : Words l) (hl : l.length ≤ 1000000000) (k : Nat) (hk : l.length + 1 ≤ k) : basculeref03_lay.f k l = some (lays l) := by
 unfold basculeref03_lay.f
 exact rlay_l0 l hw hl l.length 0 k (by omega) (by omega)
theorem both_f (l m : List Int) (h0 : l.length ≤ 100000000) (h1 : m.length ≤ 100000000) : basculeref01_Both.f l m = some (l ++ m) := by
 unfold basculeref01_Both.f
 rw [if_pos (by simp; omega), Option.bind_some, if_pos (by simp; omega)]
 rfl
theorem rcounted_f (m : List Int) (h1 : m.length ≤ 100000000) : basculeref03_counted.f m = some ((m.length : Int) % 256 :: m) := by
 unfold basculeref03_counted.f
 rw [both_f _ _ (by simp) h1, Option.bind_some]
 rfl
theorem rbytes_yes (k : Nat) (fn a1 a2 : Int) (l : List Int) (a4 a5 a6 : Int) (hk : 10000 ≤ k) (h : mayB fn a1 a2 l a4 a5 a6 = true) :
 basculeref03_Bytes.f k fn a1 a2 l a4 a5 a6 = some (reqB fn a1 a2 l a4 a5 a6) := by
 have I := may_is h
 have hlen := I.len
 have hfn := I.fns
 have ha := I.addr
 obtain ⟨k, rfl⟩ : ∃ m, k = m + 1 := ⟨k - 1, by omega⟩
 have e : basculeref03_Bytes.f (k + 1) fn a1 a2 l a4 a5 a6 = basculeref03_Bytes.j0 (k + 1) [fn % 256] fn (decide (fn = 1 ∨ fn = 2 ∨ fn = 3 ∨ fn = 4)) fn a1 a2 l a4 a5 a6 := by
  unfold basculeref03_Bytes.f
  rw [Option.bind_some]
  by_cases c1 : fn = 1
  ·subst c1; rfl
  by_cases c2 : fn = 2
  ·subst c2; rfl
  by_cases c3 : fn = 3
  ·subst c3; rfl
  rw [if_neg c1, if_neg c2, if_neg c3]
  congr 1
  rw [beq_dec, decide_eq_decide]
  omega
 rw [e]
 rw [basculeref03_Bytes.j0]
 unfold reqB
 have hl2 : (lays [a1]).length = 2 := by simp [lays_len]
 have happ : ∀ x m, lays (x :: m) = lays [x] ++ lays m := fun x m => by simp [lays]
 unfold tailB
 by_cases cr : fn = 1 ∨ fn = 2 ∨ fn = 3 ∨ fn = 4
 ·have hc := I.cnt (by omega)
  rw [if_pos (decide_eq_true cr), rlay_f _ (words2 ha (by omega)) (by simp) k (by simp; omega), Option.bind_some, if_pos (by simp [lays_len]), if_neg (by omega), if_neg (by omega), if_neg (by omega), if_neg (by omega), if_neg (by omega), if_neg (by omega), happ a1 [a2], List.append_assoc]
 rw [if_neg (by rw [decide_eq_true_eq]; exact cr)]
 by_cases c5 : fn = 5
 ·have h1 := I.one (Or.inl c5)
  have hb := bits_rd (I.bits (Or.inl c5)) 0
  have hw : wrap64 (65280 * rd l 0) = 65280 * rd l 0 := wrap64_id _ (by omega) (by omega)
  rw [if_pos c5, if_pos c5, if_pos (by omega), hw, rlay_f _ (words2 ha (by omega)) (by simp) k (by simp; omega), Option.bind_some, if_pos (by simp [lays_len]), happ a1 [_], List.append_assoc]
 rw [if_neg c5, if_neg c5]
 by_cases c6 : fn = 6
 ·have h1 := I.one (Or.inr c6)
  have hb : 0 ≤ rd l 0 ∧ rd l 0 ≤ 65535 := by
   have hlt : 0 < l.length := by omega
   have hrd : rd l 0 = l[0] := by simp [rd, List.getElem?_eq_getElem hlt]
   rw [hrd]; exact I.wrds (Or.inl c6) _ (List.getElem_mem hlt)
  rw [if_pos c6, if_pos c6, if_pos (by omega), rlay_f _ (words2 ha hb) (by simp) k (by simp; omega), Option.bind_some, if_pos (by simp [lays_len]), happ a1 [_], List.append_assoc]
 rw [if_neg c6, if_neg c6]
 by_cases c15 : fn = 15
 ·have hc := I.cntl (Or.inl c15)
  rw [if_pos c15, if_neg (by omega), if_pos c15, rlay_f _ (words2 ha (by omega)) (by simp) k (by simp; omega), Option.bind_some, if_pos (by simp [lays_len]), Option.bind_some, refpack_f l (I.bits (Or.inr c15)) (by omega) k (by omega), Option.bind_some, rcounted_f _ (by rw [packs_len]; omega), Option.bind_some, if_pos (by simp [lays_len, packs_len]; omega), happ a1 [a2]]
  simp only [List.append_assoc]
 rw [if_neg c15, if_neg c15]
 by_cases c16 : fn = 16
 ·have hc := I.cntl (Or.inr c16)
  rw [if_pos c16, if_neg (by omega), if_neg (by omega), if_pos c16, rlay_f _ (words2 ha (by omega)) (by simp) k (by simp; omega), Option.bind_some, if_pos (by simp [lays_len]), Option.bind_some, rlay_f l (I.wrds (by omega)) (by omega) k (by omega), Option.bind_some, rcounted_f _ (by rw [lays_len]; omega), Option.bind_some, if_pos (by simp [lays_len]; omega), happ a1 [a2]]
  simp only [List.append_assoc]
 rw [if_neg c16, if_neg c16]
 by_cases c22 : fn = 22
 ·rw [if_pos c22, if_pos c22, rlay_f _ (words3 ha I.m.1 I.m.2) (by simp) k (by simp; omega), Option.bind_some, if_pos (by simp [lays_len]), happ a1 [a5, a6], List.append_assoc]
 rw [if_neg c22, if_neg c22]
 have c23 : fn = 23 := by omega
 have hc := I.cnt (by omega)
 rw [if_pos c23, rlay_f _ (words4 ha (by omega) I.tow (by omega)) (by simp) k (by simp; omega), Option.bind_some, if_pos (by simp [lays_len]), Option.bind_some, rlay_f l (I.wrds (by omega)) (by omega) k (by omega), Option.bind_some, rcounted_f _ (by rw [lays_len]; omega), Option.bind_some, if_pos (by simp [lays_len]; omega), happ a1 [a2, a4, (l.length : Int)]]
 simp only [List.append_assoc]
end Go.Proofs.Ytocicifgglkaeaa.Mth
end

section
namespace Go.Proofs.Ytocicifgglkaeaa.PR
open Go.RowKit Go.Proofs.YtocicifgglkaeaaW.PrintWords Go.Proofs.YtocicifgglkaeaaW.PrintLast Go.Proofs.YtocicifgglkaeaaW.PrintMore
attribute [local go_sem] max2_int min2_int max_two min_two max_three min_three max_four min_four   
set_option linter.unusedVariables false
set_option linter.unusedSimpArgs false
open Go.Proofs.Ytocicifgglkaeaa.Ext Go.Proofs.Ytocicifgglkaeaa.PP Go.Proofs.Ytocicifgglkaeaa.ExtF Go.Proofs.Ytocicifgglkaeaa.PQ Go.Proofs.Ytocicifgglkaeaa.ExtM
def basculeref03_AnswerMay.j0 : Nat → Int → Bool → Int → Int → Int → List Int → Int → Int → Int → List Int → Int → Option (Bool)
 | 0, _, _, _, _, _, _, _, _, _, _, _ => none
 | k + 1, x23, x24, x271000, x271001, x271002, x271003, x271004, x271005, x271006, x272000, x272001 => if x24 = true then (if (x272000.length : Int) = x271002 then ((basculeref01_Bits.f k x272000).bind fun t272 => (some t272)) else (some false)) else (if x23 = 3 then (if (x272000.length : Int) = x271002 then ((basculeref03_words.f k x272000).bind fun t273 => (some t273)) else (some false)) else (if x23 = 4 then (if (x272000.length : Int) = x271002 then ((basculeref03_words.f k x272000).bind fun t274 => (some t274)) else (some false)) else (if x23 = 23 then (if (x272000.length : Int) = x271002 then ((basculeref03_words.f k x272000).bind fun t275 => (some t275)) else (some false)) else (some ((x272000.length : Int) == 0)))))
def basculeref03_AnswerMay.f (k : Nat) (a0_0 : Int) (a0_1 : Int) (a0_2 : Int) (l0_3 : List Int) (a0_4 : Int) (a0_5 : Int) (a0_6 : Int) (l1_0 : List Int) (a1_1 : Int) : Option (Bool) := if a1_1 = 0 then (if a0_0 = 1 then (basculeref03_AnswerMay.j0 k a0_0 (a0_0 == 1) a0_0 a0_1 a0_2 l0_3 a0_4 a0_5 a0_6 l1_0 a1_1) else (basculeref03_AnswerMay.j0 k a0_0 (a0_0 == 2) a0_0 a0_1 a0_2 l0_3 a0_4 a0_5 a0_6 l1_0 a1_1)) else (if a1_1 ≥ 1 then (if a1_1 ≤ 255 then (some ((l1_0.length : Int) == 0)) else (some false)) else (some false))
theorem basculeref03_AnswerMay.mono_l : ∀ k, (∀ y0 y1 y2 y3 y4 y5 y6 y7 y8 y9 y10, LeO (basculeref03_AnswerMay.j0 k y0 y1 y2 y3 y4 y5 y6 y7 y8 y9 y10) (basculeref03_AnswerMay.j0 (k + 1) y0 y1 y2 y3 y4 y5 y6 y7 y8 y9 y10))
 | 0 => fun _ _ _ _ _ _ _ _ _ _ _ r h => by simp [basculeref03_AnswerMay.j0] at h
 | k + 1 => by
  have ih0 := basculeref03_AnswerMay.mono_l k
  ·intro y0 y1 y2 y3 y4 y5 y6 y7 y8 y9 y10
   unfold basculeref03_AnswerMay.j0
   repeat' first
   | (with_reducible exact ih0 _ _ _ _ _ _ _ _ _ _ _)
   | (with_reducible exact basculeref01_Bits.mono _ _)
   | (with_reducible exact basculeref03_words.mono _ _)
   | (with_reducible exact LeO.refl _)
   | (with_reducible exact LeO.none _)
   | (with_reducible refine LeO.ite ?_ ?_)
   | (with_reducible refine LeO.bind ?_ (fun _ => ?_))
   | exact ih0 _ _ _ _ _ _ _ _ _ _ _
   | exact basculeref01_Bits.mono _ _
   | exact basculeref03_words.mono _ _
   | exact LeO.none _
   | refine LeO.ite ?_ ?_
   | refine LeO.bind ?_ (fun _ => ?_)
theorem basculeref03_AnswerMay.mono : ∀ a0 a1 a2 a3 a4 a5 a6 a7 a8 k, LeO (basculeref03_AnswerMay.f k a0 a1 a2 a3 a4 a5 a6 a7 a8) (basculeref03_AnswerMay.f (k + 1) a0 a1 a2 a3 a4 a5 a6 a7 a8) := by
 intro a0 a1 a2 a3 a4 a5 a6 a7 a8 k
 have ih0 := basculeref03_AnswerMay.mono_l k
 unfold basculeref03_AnswerMay.f
 repeat' first
  | (with_reducible exact ih0 _ _ _ _ _ _ _ _ _ _ _)
  | (with_reducible exact basculeref01_Bits.mono _ _)
  | (with_reducible exact basculeref03_words.mono _ _)
  | (with_reducible exact LeO.refl _)
  | (with_reducible exact LeO.none _)
  | (with_reducible refine LeO.ite ?_ ?_)
  | (with_reducible refine LeO.bind ?_ (fun _ => ?_))
  | exact ih0 _ _ _ _ _ _ _ _ _ _ _
  | exact basculeref01_Bits.mono _ _
  | exact basculeref03_words.mono _ _
  | exact LeO.none _
  | refine LeO.ite ?_ ?_
  | refine LeO.bind ?_ (fun _ => ?_)
set_option maxHeartbeats 8000000 in
set_option maxRecDepth 100000 in
theorem basculeref03_AnswerMay.calls (k : Nat) (a0_0 : Int) (a0_1 : Int) (a0_2 : Int) (A0_3 : Option Addr) (c0_3 : Nat) (l0_3 : List Int) (a0_4 : Int) (a0_5 : Int) (a0_6 : Int) (A1_0 : Option Addr) (c1_0 : Nat) (l1_0 : List Int) (a1_1 : Int) (r : Bool) (w : World) (hr0_3 : Kd.C (Kd.int .i64) w A0_3 l0_3.length l0_3) (hc0_3 : l0_3.length ≤ c0_3) (hr1_0 : Kd.C (Kd.int .i64) w A1_0 l1_0.length l1_0) (hc1_0 : l1_0.length ≤ c1_0) (h : basculeref03_AnswerMay.f k a0_0 a0_1 a0_2 l0_3 a0_4 a0_5 a0_6 l1_0 a1_1 = some r) :
 Calls Try.prog 37 #[.agg #[.int .i64 a0_0, .int .i64 a0_1, .int .i64 a0_2, .slice A0_3 l0_3.length c0_3, .int .i64 a0_4, .int .i64 a0_5, .int .i64 a0_6], .agg #[.slice A1_0 l1_0.length c1_0, .int .i64 a1_1]] w fun e w' => e = .returned (.bool r) ∧ Below w.heap.size w w' := by
 have hu24 := Try.underlying24
 have hu30 := Try.underlying30
 have HR0_3 := Aside0.mk hr0_3
 have HC0_3 := Aside0.mk hc0_3
 clear hr0_3 hc0_3
 have HR1_0 := Aside0.mk hr1_0
 have HC1_0 := Aside0.mk hc1_0
 clear hr1_0 hc1_0
 have HB := Aside0.mk (Below.refl w.heap.size w)
 have H : (if a1_1 = 0 then (if a0_0 = 1 then (basculeref03_AnswerMay.j0 k a0_0 (a0_0 == 1) a0_0 a0_1 a0_2 l0_3 a0_4 a0_5 a0_6 l1_0 a1_1) else (basculeref03_AnswerMay.j0 k a0_0 (a0_0 == 2) a0_0 a0_1 a0_2 l0_3 a0_4 a0_5 a0_6 l1_0 a1_1)) else (if a1_1 ≥ 1 then (if a1_1 ≤ 255 then (some ((l1_0.length : Int) == 0)) else (some false)) else (some false))) = some r := h
 clear h
 by_cases c3 : a1_1 = 0
 ·rw [if_pos c3] at H
  have c3b0 : (a1_1 == 0) = true := beq_iff_eq.mpr c3
  have c3b1 : (a1_1 != 0) = false := bne_eq_false_iff_eq.mpr c3
  clear c3
  have HC4 := Aside0.mk H
  clear H
  go_enter Try.func37, Try.ntmps37
  go_upto_if 24 with (first | ((with_reducible refine gate_dst (N := 2) rfl ?_); (try (refine gate_guard (by rfl) ?_; dsimp only)); refine bx_ (N := 2) (cs := #[.int .i64 a0_0, .int .i64 a0_1, .int .i64 a0_2, .slice A0_3 l0_3.length c0_3, .int .i64 a0_4, .int .i64 a0_5, .int .i64 a0_6]) (t := 24) ?_; intro gb270 hg w5 hbox hb; have n0_ := Aside0.mk (below_step (bl0_ HB) hb); have n1_ := Aside0.mk (hbox); have n2_ := Aside0.mk ((by rw [hg]; exact (below_size (bl0_ HB)) : w.heap.size ≤ gb270)); have n3_ := Aside0.mk ((by rw [hg]; exact (below_size (bl0_ HB)) : w.heap.size ≤ gb270)); clear HB; have HB := n0_; have BK270 := n1_; have GW270 := n2_; have GE270 := n3_; clear n0_ n1_ n2_ n3_; clear hb hbox hg) | ((with_reducible refine gate_dst (N := 3) rfl ?_); (try (refine gate_guard (by rfl) ?_; dsimp only)); refine bx_ (N := 3) (cs := #[.slice A1_0 l1_0.length c1_0, .int .i64 a1_1]) (t := 30) ?_; intro gb271 hg w6 hbox hb; have n0_ := Aside0.mk (blk_below (g := gb270) (bk_ BK270) hb); have n1_ := Aside0.mk (below_step (bl1_ HB GE270) hb); have n2_ := Aside0.mk (hbox); have n3_ := Aside0.mk ((by rw [hg]; exact (below_size (bl1_ HB GE270)) : w.heap.size ≤ gb271)); have n4_ := Aside0.mk ((by rw [hg]; exact (below_size (bl1_ HB GE270)) : w.heap.size ≤ gb271)); have n5_ := Aside0.mk ((by rw [hg]; exact Nat.ne_of_lt (blk_lt (g := gb270) (bk_ BK270)) : gb270 ≠ gb271)); have n6_ := Aside0.mk ((by rw [hg]; exact Nat.ne_of_gt (blk_lt (g := gb270) (bk_ BK270)) : gb271 ≠ gb270)); clear BK270; clear HB; have BK270 := n0_; have HB := n1_; have BK271 := n2_; have GW271 := n3_; have GE271 := n4_; have NB270_271 := n5_; have NB271_270 := n6_; clear n0_ n1_ n2_ n3_ n4_ n5_ n6_; clear hb hbox hg; have hnb7 := NB271_270.out; have hnc7 := NB270_271.out; refine cz2_ BK271.out ?_; intro hcz8_0 hcz8_1 hfz8_0 hfz8_1; refine cz7_ BK270.out ?_; intro hcz9_0 hcz9_1 hcz9_2 hcz9_3 hcz9_4 hcz9_5 hcz9_6 hfz9_0 hfz9_1 hfz9_2 hfz9_3 hfz9_4 hfz9_5 hfz9_6))
  (try simp only [Act.put, List.setIfInBounds_toArray, List.set_cons_zero, List.set_cons_succ])
  go_cut [24] (fun v24 wc => ∃ (kq : Nat) (x24_3 : Bool), v24 = .bool x24_3 ∧ Aside0 (basculeref03_AnswerMay.j0 kq a0_0 x24_3 a0_0 a0_1 a0_2 l0_3 a0_4 a0_5 a0_6 l1_0 a1_1 = some r) ∧ Aside0 (kq ≤ k) ∧ Aside0 (wc.heap[gb270]? = some (.cells #[.int .i64 a0_0, .int .i64 a0_1, .int .i64 a0_2, (.slice A0_3 l0_3.length c0_3), .int .i64 a0_4, .int .i64 a0_5, .int .i64 a0_6] 24 (0, 0))) ∧ Aside0 (wc.heap[gb271]? = some (.cells #[(.slice A1_0 l1_0.length c1_0), .int .i64 a1_1] 30 (0, 0))) ∧ Aside0 (Below w.heap.size w wc))
  case first =>
   have H := HC4.out
   clear HC4
   by_cases c10 : a0_0 = 1
   ·rw [if_pos c10] at H
    have c10b0 : (a0_0 == 1) = true := beq_iff_eq.mpr c10
    have c10b1 : (a0_0 != 1) = false := bne_eq_false_iff_eq.mpr c10
    clear c10
    (first | rw [c10b0] | (simp only [i64_w, i32_w]; rw [c10b0]) | skip)
    have H' := Aside0.mk H
    clear H
    go_wp2
    go_meet
    case rel => exact ⟨_, ((a0_0 == 1)), (by first | rfl | (simp; done) | (simp [*]; done)), H', ⟨by first | omega | exact Nat.le_refl _⟩, ⟨bk_ BK270⟩, ⟨bk_ BK271⟩, ⟨bl2_ HB GE270 GE271⟩⟩
   ·rw [if_neg c10] at H
    have c10b0 : (a0_0 == 1) = false := beq_eq_false_iff_ne.mpr c10
    have c10b1 : (a0_0 != 1) = true := bne_iff_ne.mpr c10
    (first | rw [c10b0] | (simp only [i64_w, i32_w]; rw [c10b0]) | skip)
    have H' := Aside0.mk H
    clear H
    go_wp2
    go_meet
    case rel => exact ⟨_, ((a0_0 == 2)), (by first | rfl | (simp; done) | (simp [*]; done)), H', ⟨by first | omega | exact Nat.le_refl _⟩, ⟨bk_ BK270⟩, ⟨bk_ BK271⟩, ⟨bl2_ HB GE270 GE271⟩⟩
  case rest =>
   clear HC4
   try clear c1
   try clear p2
   try clear c3
   try clear c3b0
   try clear c3b1
   try clear c7
   try clear c10
   try clear c10b0
   try clear c10b1
   try clear hcz8_0 hcz8_1
   try clear hcz9_0 hcz9_1 hcz9_2 hcz9_3 hcz9_4 hcz9_5 hcz9_6
   try clear hfz8_0 hfz8_1
   try clear hfz9_0 hfz9_1 hfz9_2 hfz9_3 hfz9_4 hfz9_5 hfz9_6
   obtain ⟨kq, x24_3, rfl, HA, HJ3, BK270, BK271, HB⟩ := hcut
   cases kq with
   | zero => exact absurd HA.out (by simp [basculeref03_AnswerMay.j0])
   | succ kj3 =>
    have H := HA.out
    clear HA
    simp only [basculeref03_AnswerMay.j0] at H
    by_cases c11 : x24_3 = true
    ·subst c11
     have H1 : (if (l1_0.length : Int) = a0_2 then ((basculeref01_Bits.f kj3 l1_0).bind fun t272 => (some t272)) else (some false)) = some r := by rw [if_pos rfl] at H; exact H
     clear H
     have H := H1
     clear H1
     by_cases c12 : (l1_0.length : Int) = a0_2
     ·rw [if_pos c12] at H
      have c12b0 : ((l1_0.length : Int) == a0_2) = true := beq_iff_eq.mpr c12
      have c12b1 : ((l1_0.length : Int) != a0_2) = false := bne_eq_false_iff_eq.mpr c12
      clear c12
      replace H := Option.bind_eq_some_iff.mp H
      obtain ⟨t272, A130, H⟩ := H
      replace H : (some t272) = some r := H
      have A13 := Aside0.mk A130
      clear A130
      obtain rfl := Option.some.inj H
      have hnb14 := NB271_270.out
      have hnc14 := NB270_271.out
      refine cz2_ BK271.out ?_; intro hcz15_0 hcz15_1 hfz15_0 hfz15_1
      refine cz7_ BK270.out ?_; intro hcz16_0 hcz16_1 hcz16_2 hcz16_3 hcz16_4 hcz16_5 hcz16_6 hfz16_0 hfz16_1 hfz16_2 hfz16_3 hfz16_4 hfz16_5 hfz16_6
      go_wp2_with (first | (go_at_call 67; (with_reducible refine (basculeref01_Bits.calls kj3 _ _ l1_0 t272 _ ?side1 ?side2 A13.out).mono ?_); (case side1 => exact sc_ (Kd.C_below HR1_0.out HB.out)); (case side2 => exact HC1_0.out); rintro e w' ⟨rfl, ⟨nd, rfl⟩⟩))
      go_ret
      exact ⟨er_, bl2_ HB GE270 GE271⟩
     ·rw [if_neg c12] at H
      have c12b0 : ((l1_0.length : Int) == a0_2) = false := beq_eq_false_iff_ne.mpr c12
      have c12b1 : ((l1_0.length : Int) != a0_2) = true := bne_iff_ne.mpr c12
      obtain rfl := Option.some.inj H
      have hnb17 := NB271_270.out
      have hnc17 := NB270_271.out
      refine cz2_ BK271.out ?_; intro hcz18_0 hcz18_1 hfz18_0 hfz18_1
      refine cz7_ BK270.out ?_; intro hcz19_0 hcz19_1 hcz19_2 hcz19_3 hcz19_4 hcz19_5 hcz19_6 hfz19_0 hfz19_1 hfz19_2 hfz19_3 hfz19_4 hfz19_5 hfz19_6
      go_wp2
      go_ret
      exact ⟨er_, bl2_ HB GE270 GE271⟩
    ·replace c11 := Bool.eq_false_iff.mpr c11
     subst c11
     have H1 : (if a0_0 = 3 then (if (l1_0.length : Int) = a0_2 then ((basculeref03_words.f kj3 l1_0).bind fun t273 => (some t273)) else (some false)) else (if a0_0 = 4 then (if (l1_0.length : Int) = a0_2 then ((basculeref03_words.f kj3 l1_0).bind fun t274 => (some t274)) else (some false)) else (if a0_0 = 23 then (if (l1_0.length : Int) = a0_2 then ((basculeref03_words.f kj3 l1_0).bind fun t275 => (some t275)) else (some false)) else (some ((l1_0.length : Int) == 0))))) = some r := by rw [if_neg (show ¬ (false = true) by decide)] at H; exact H
     clear H
     have H := H1
     clear H1
     by_cases c20 : a0_0 = 3
     ·rw [if_pos c20] at H
      have c20b0 : (a0_0 == 3) = true := beq_iff_eq.mpr c20
      have c20b1 : (a0_0 != 3) = false := bne_eq_false_iff_eq.mpr c20
      clear c20
      by_cases c21 : (l1_0.length : Int) = a0_2
      ·rw [if_pos c21] at H
       have c21b0 : ((l1_0.length : Int) == a0_2) = true := beq_iff_eq.mpr c21
       have c21b1 : ((l1_0.length : Int) != a0_2) = false := bne_eq_false_iff_eq.mpr c21
       clear c21
       replace H := Option.bind_eq_some_iff.mp H
       obtain ⟨t273, A220, H⟩ := H
       replace H : (some t273) = some r := H
       have A22 := Aside0.mk A220
       clear A220
       obtain rfl := Option.some.inj H
       have hnb23 := NB271_270.out
       have hnc23 := NB270_271.out
       refine cz2_ BK271.out ?_; intro hcz24_0 hcz24_1 hfz24_0 hfz24_1
       refine cz7_ BK270.out ?_; intro hcz25_0 hcz25_1 hcz25_2 hcz25_3 hcz25_4 hcz25_5 hcz25_6 hfz25_0 hfz25_1 hfz25_2 hfz25_3 hfz25_4 hfz25_5 hfz25_6
       go_wp2_with (first | (go_at_call 68; (with_reducible refine (basculeref03_words.calls kj3 _ _ l1_0 t273 _ ?side1 ?side2 A22.out).mono ?_); (case side1 => exact sc_ (Kd.C_below HR1_0.out HB.out)); (case side2 => exact HC1_0.out); rintro e w' ⟨rfl, ⟨nd, rfl⟩⟩))
       go_ret
       exact ⟨er_, bl2_ HB GE270 GE271⟩
      ·rw [if_neg c21] at H
       have c21b0 : ((l1_0.length : Int) == a0_2) = false := beq_eq_false_iff_ne.mpr c21
       have c21b1 : ((l1_0.length : Int) != a0_2) = true := bne_iff_ne.mpr c21
       obtain rfl := Option.some.inj H
       have hnb26 := NB271_270.out
       have hnc26 := NB270_271.out
       refine cz2_ BK271.out ?_; intro hcz27_0 hcz27_1 hfz27_0 hfz27_1
       refine cz7_ BK270.out ?_; intro hcz28_0 hcz28_1 hcz28_2 hcz28_3 hcz28_4 hcz28_5 hcz28_6 hfz28_0 hfz28_1 hfz28_2 hfz28_3 hfz28_4 hfz28_5 hfz28_6
       go_wp2
       go_ret
       exact ⟨er_, bl2_ HB GE270 GE271⟩
     ·rw [if_neg c20] at H
      have c20b0 : (a0_0 == 3) = false := beq_eq_false_iff_ne.mpr c20
      have c20b1 : (a0_0 != 3) = true := bne_iff_ne.mpr c20
      by_cases c29 : a0_0 = 4
      ·rw [if_pos c29] at H
       have c29b0 : (a0_0 == 4) = true := beq_iff_eq.mpr c29
       have c29b1 : (a0_0 != 4) = false := bne_eq_false_iff_eq.mpr c29
       clear c29
       by_cases c30 : (l1_0.length : Int) = a0_2
       ·rw [if_pos c30] at H
        have c30b0 : ((l1_0.length : Int) == a0_2) = true := beq_iff_eq.mpr c30
        have c30b1 : ((l1_0.length : Int) != a0_2) = false := bne_eq_false_iff_eq.mpr c30
        clear c30
        replace H := Option.bind_eq_some_iff.mp H
        obtain ⟨t274, A310, H⟩ := H
        replace H : (some t274) = some r := H
        have A31 := Aside0.mk A310
        clear A310
        obtain rfl := Option.some.inj H
        have hnb32 := NB271_270.out
        have hnc32 := NB270_271.out
        refine cz2_ BK271.out ?_; intro hcz33_0 hcz33_1 hfz33_0 hfz33_1
        refine cz7_ BK270.out ?_; intro hcz34_0 hcz34_1 hcz34_2 hcz34_3 hcz34_4 hcz34_5 hcz34_6 hfz34_0 hfz34_1 hfz34_2 hfz34_3 hfz34_4 hfz34_5 hfz34_6
        go_wp2_with (first | (go_at_call 68; (with_reducible refine (basculeref03_words.calls kj3 _ _ l1_0 t274 _ ?side1 ?side2 A31.out).mono ?_); (case side1 => exact sc_ (Kd.C_below HR1_0.out HB.out)); (case side2 => exact HC1_0.out); rintro e w' ⟨rfl, ⟨nd, rfl⟩⟩))
        go_ret
        exact ⟨er_, bl2_ HB GE270 GE271⟩
       ·rw [if_neg c30] at H
        have c30b0 : ((l1_0.length : Int) == a0_2) = false := beq_eq_false_iff_ne.mpr c30
        have c30b1 : ((l1_0.length : Int) != a0_2) = true := bne_iff_ne.mpr c30
        obtain rfl := Option.some.inj H
        have hnb35 := NB271_270.out
        have hnc35 := NB270_271.out
        refine cz2_ BK271.out ?_; intro hcz36_0 hcz36_1 hfz36_0 hfz36_1
        refine cz7_ BK270.out ?_; intro hcz37_0 hcz37_1 hcz37_2 hcz37_3 hcz37_4 hcz37_5 hcz37_6 hfz37_0 hfz37_1 hfz37_2 hfz37_3 hfz37_4 hfz37_5 hfz37_6
        go_wp2
        go_ret
        exact ⟨er_, bl2_ HB GE270 GE271⟩
      ·rw [if_neg c29] at H
       have c29b0 : (a0_0 == 4) = false := beq_eq_false_iff_ne.mpr c29
       have c29b1 : (a0_0 != 4) = true := bne_iff_ne.mpr c29
       by_cases c38 : a0_0 = 23
       ·rw [if_pos c38] at H
        have c38b0 : (a0_0 == 23) = true := beq_iff_eq.mpr c38
        have c38b1 : (a0_0 != 23) = false := bne_eq_false_iff_eq.mpr c38
        clear c38
        by_cases c39 : (l1_0.length : Int) = a0_2
        ·rw [if_pos c39] at H
         have c39b0 : ((l1_0.length : Int) == a0_2) = true := beq_iff_eq.mpr c39
         have c39b1 : ((l1_0.length : Int) != a0_2) = false := bne_eq_false_iff_eq.mpr c39
         clear c39
         replace H := Option.bind_eq_some_iff.mp H
         obtain ⟨t275, A400, H⟩ := H
         replace H : (some t275) = some r := H
         have A40 := Aside0.mk A400
         clear A400
         obtain rfl := Option.some.inj H
         have hnb41 := NB271_270.out
         have hnc41 := NB270_271.out
         refine cz2_ BK271.out ?_; intro hcz42_0 hcz42_1 hfz42_0 hfz42_1
         refine cz7_ BK270.out ?_; intro hcz43_0 hcz43_1 hcz43_2 hcz43_3 hcz43_4 hcz43_5 hcz43_6 hfz43_0 hfz43_1 hfz43_2 hfz43_3 hfz43_4 hfz43_5 hfz43_6
         go_wp2_with (first | (go_at_call 68; (with_reducible refine (basculeref03_words.calls kj3 _ _ l1_0 t275 _ ?side1 ?side2 A40.out).mono ?_); (case side1 => exact sc_ (Kd.C_below HR1_0.out HB.out)); (case side2 => exact HC1_0.out); rintro e w' ⟨rfl, ⟨nd, rfl⟩⟩))
         go_ret
         exact ⟨er_, bl2_ HB GE270 GE271⟩
        ·rw [if_neg c39] at H
         have c39b0 : ((l1_0.length : Int) == a0_2) = false := beq_eq_false_iff_ne.mpr c39
         have c39b1 : ((l1_0.length : Int) != a0_2) = true := bne_iff_ne.mpr c39
         obtain rfl := Option.some.inj H
         have hnb44 := NB271_270.out
         have hnc44 := NB270_271.out
         refine cz2_ BK271.out ?_; intro hcz45_0 hcz45_1 hfz45_0 hfz45_1
         refine cz7_ BK270.out ?_; intro hcz46_0 hcz46_1 hcz46_2 hcz46_3 hcz46_4 hcz46_5 hcz46_6 hfz46_0 hfz46_1 hfz46_2 hfz46_3 hfz46_4 hfz46_5 hfz46_6
         go_wp2
         go_ret
         exact ⟨er_, bl2_ HB GE270 GE271⟩
       ·rw [if_neg c38] at H
        have c38b0 : (a0_0 == 23) = false := beq_eq_false_iff_ne.mpr c38
        have c38b1 : (a0_0 != 23) = true := bne_iff_ne.mpr c38
        obtain rfl := Option.some.inj H
        have hnb47 := NB271_270.out
        have hnc47 := NB270_271.out
        refine cz2_ BK271.out ?_; intro hcz48_0 hcz48_1 hfz48_0 hfz48_1
        go_wp2
        go_ret
        exact ⟨er_, bl2_ HB GE270 GE271⟩
 ·rw [if_neg c3] at H
  have c3b0 : (a1_1 == 0) = false := beq_eq_false_iff_ne.mpr c3
  have c3b1 : (a1_1 != 0) = true := bne_iff_ne.mpr c3
  by_cases c49 : a1_1 ≥ 1
  ·rw [if_pos c49] at H
   have c49b0 : decide (1 ≤ a1_1) = true := decide_eq_true c49
   clear c49
   by_cases c50 : a1_1 ≤ 255
   ·rw [if_pos c50] at H
    have c50b0 : decide (a1_1 ≤ 255) = true := decide_eq_true c50
    clear c50
    obtain rfl := Option.some.inj H
    go_enter Try.func37, Try.ntmps37
    go_wp2_with (first | ((with_reducible refine gate_dst (N := 2) rfl ?_); (try (refine gate_guard (by rfl) ?_; dsimp only)); refine bx_ (N := 2) (cs := #[.int .i64 a0_0, .int .i64 a0_1, .int .i64 a0_2, .slice A0_3 l0_3.length c0_3, .int .i64 a0_4, .int .i64 a0_5, .int .i64 a0_6]) (t := 24) ?_; intro gb270 hg w51 hbox hb; have n0_ := Aside0.mk (below_step (bl0_ HB) hb); have n1_ := Aside0.mk (hbox); have n2_ := Aside0.mk ((by rw [hg]; exact (below_size (bl0_ HB)) : w.heap.size ≤ gb270)); have n3_ := Aside0.mk ((by rw [hg]; exact (below_size (bl0_ HB)) : w.heap.size ≤ gb270)); clear HB; have HB := n0_; have BK270 := n1_; have GW270 := n2_; have GE270 := n3_; clear n0_ n1_ n2_ n3_; clear hb hbox hg) | ((with_reducible refine gate_dst (N := 3) rfl ?_); (try (refine gate_guard (by rfl) ?_; dsimp only)); refine bx_ (N := 3) (cs := #[.slice A1_0 l1_0.length c1_0, .int .i64 a1_1]) (t := 30) ?_; intro gb271 hg w52 hbox hb; have n0_ := Aside0.mk (blk_below (g := gb270) (bk_ BK270) hb); have n1_ := Aside0.mk (below_step (bl1_ HB GE270) hb); have n2_ := Aside0.mk (hbox); have n3_ := Aside0.mk ((by rw [hg]; exact (below_size (bl1_ HB GE270)) : w.heap.size ≤ gb271)); have n4_ := Aside0.mk ((by rw [hg]; exact (below_size (bl1_ HB GE270)) : w.heap.size ≤ gb271)); have n5_ := Aside0.mk ((by rw [hg]; exact Nat.ne_of_lt (blk_lt (g := gb270) (bk_ BK270)) : gb270 ≠ gb271)); have n6_ := Aside0.mk ((by rw [hg]; exact Nat.ne_of_gt (blk_lt (g := gb270) (bk_ BK270)) : gb271 ≠ gb270)); clear BK270; clear HB; have BK270 := n0_; have HB := n1_; have BK271 := n2_; have GW271 := n3_; have GE271 := n4_; have NB270_271 := n5_; have NB271_270 := n6_; clear n0_ n1_ n2_ n3_ n4_ n5_ n6_; clear hb hbox hg; have hnb53 := NB271_270.out; have hnc53 := NB270_271.out; refine cz2_ BK271.out ?_; intro hcz54_0 hcz54_1 hfz54_0 hfz54_1))
    go_ret
    exact ⟨er_, bl2_ HB GE270 GE271⟩
   ·rw [if_neg c50] at H
    have c50b0 : decide (a1_1 ≤ 255) = false := decide_eq_false c50
    clear c50
    obtain rfl := Option.some.inj H
    go_enter Try.func37, Try.ntmps37
    go_wp2_with (first | ((with_reducible refine gate_dst (N := 2) rfl ?_); (try (refine gate_guard (by rfl) ?_; dsimp only)); refine bx_ (N := 2) (cs := #[.int .i64 a0_0, .int .i64 a0_1, .int .i64 a0_2, .slice A0_3 l0_3.length c0_3, .int .i64 a0_4, .int .i64 a0_5, .int .i64 a0_6]) (t := 24) ?_; intro gb270 hg w55 hbox hb; have n0_ := Aside0.mk (below_step (bl0_ HB) hb); have n1_ := Aside0.mk (hbox); have n2_ := Aside0.mk ((by rw [hg]; exact (below_size (bl0_ HB)) : w.heap.size ≤ gb270)); have n3_ := Aside0.mk ((by rw [hg]; exact (below_size (bl0_ HB)) : w.heap.size ≤ gb270)); clear HB; have HB := n0_; have BK270 := n1_; have GW270 := n2_; have GE270 := n3_; clear n0_ n1_ n2_ n3_; clear hb hbox hg) | ((with_reducible refine gate_dst (N := 3) rfl ?_); (try (refine gate_guard (by rfl) ?_; dsimp only)); refine bx_ (N := 3) (cs := #[.slice A1_0 l1_0.length c1_0, .int .i64 a1_1]) (t := 30) ?_; intro gb271 hg w56 hbox hb; have n0_ := Aside0.mk (blk_below (g := gb270) (bk_ BK270) hb); have n1_ := Aside0.mk (below_step (bl1_ HB GE270) hb); have n2_ := Aside0.mk (hbox); have n3_ := Aside0.mk ((by rw [hg]; exact (below_size (bl1_ HB GE270)) : w.heap.size ≤ gb271)); have n4_ := Aside0.mk ((by rw [hg]; exact (below_size (bl1_ HB GE270)) : w.heap.size ≤ gb271)); have n5_ := Aside0.mk ((by rw [hg]; exact Nat.ne_of_lt (blk_lt (g := gb270) (bk_ BK270)) : gb270 ≠ gb271)); have n6_ := Aside0.mk ((by rw [hg]; exact Nat.ne_of_gt (blk_lt (g := gb270) (bk_ BK270)) : gb271 ≠ gb270)); clear BK270; clear HB; have BK270 := n0_; have HB := n1_; have BK271 := n2_; have GW271 := n3_; have GE271 := n4_; have NB270_271 := n5_; have NB271_270 := n6_; clear n0_ n1_ n2_ n3_ n4_ n5_ n6_; clear hb hbox hg; have hnb57 := NB271_270.out; have hnc57 := NB270_271.out; refine cz2_ BK271.out ?_; intro hcz58_0 hcz58_1 hfz58_0 hfz58_1))
    go_ret
    exact ⟨er_, bl2_ HB GE270 GE271⟩
  ·rw [if_neg c49] at H
   have c49b0 : decide (1 ≤ a1_1) = false := decide_eq_false c49
   clear c49
   obtain rfl := Option.some.inj H
   go_enter Try.func37, Try.ntmps37
   go_wp2_with (first | ((with_reducible refine gate_dst (N := 2) rfl ?_); (try (refine gate_guard (by rfl) ?_; dsimp only)); refine bx_ (N := 2) (cs := #[.int .i64 a0_0, .int .i64 a0_1, .int .i64 a0_2, .slice A0_3 l0_3.length c0_3, .int .i64 a0_4, .int .i64 a0_5, .int .i64 a0_6]) (t := 24) ?_; intro gb270 hg w59 hbox hb; have n0_ := Aside0.mk (below_step (bl0_ HB) hb); have n1_ := Aside0.mk (hbox); have n2_ := Aside0.mk ((by rw [hg]; exact (below_size (bl0_ HB)) : w.heap.size ≤ gb270)); have n3_ := Aside0.mk ((by rw [hg]; exact (below_size (bl0_ HB)) : w.heap.size ≤ gb270)); clear HB; have HB := n0_; have BK270 := n1_; have GW270 := n2_; have GE270 := n3_; clear n0_ n1_ n2_ n3_; clear hb hbox hg) | ((with_reducible refine gate_dst (N := 3) rfl ?_); (try (refine gate_guard (by rfl) ?_; dsimp only)); refine bx_ (N := 3) (cs := #[.slice A1_0 l1_0.length c1_0, .int .i64 a1_1]) (t := 30) ?_; intro gb271 hg w60 hbox hb; have n0_ := Aside0.mk (blk_below (g := gb270) (bk_ BK270) hb); have n1_ := Aside0.mk (below_step (bl1_ HB GE270) hb); have n2_ := Aside0.mk (hbox); have n3_ := Aside0.mk ((by rw [hg]; exact (below_size (bl1_ HB GE270)) : w.heap.size ≤ gb271)); have n4_ := Aside0.mk ((by rw [hg]; exact (below_size (bl1_ HB GE270)) : w.heap.size ≤ gb271)); have n5_ := Aside0.mk ((by rw [hg]; exact Nat.ne_of_lt (blk_lt (g := gb270) (bk_ BK270)) : gb270 ≠ gb271)); have n6_ := Aside0.mk ((by rw [hg]; exact Nat.ne_of_gt (blk_lt (g := gb270) (bk_ BK270)) : gb271 ≠ gb270)); clear BK270; clear HB; have BK270 := n0_; have HB := n1_; have BK271 := n2_; have GW271 := n3_; have GE271 := n4_; have NB270_271 := n5_; have NB271_270 := n6_; clear n0_ n1_ n2_ n3_ n4_ n5_ n6_; clear hb hbox hg; have hnb61 := NB271_270.out; have hnc61 := NB270_271.out; refine cz2_ BK271.out ?_; intro hcz62_0 hcz62_1 hfz62_0 hfz62_1))
   go_ret
   exact ⟨er_, bl2_ HB GE270 GE271⟩
end Go.Proofs.Ytocicifgglkaeaa.PR
end

section
namespace Go.Proofs.Ytocicifgglkaeaa.PR
open Go.RowKit Go.Proofs.YtocicifgglkaeaaW.PrintWords Go.Proofs.YtocicifgglkaeaaW.PrintLast Go.Proofs.YtocicifgglkaeaaW.PrintMore
attribute [local go_sem] max2_int min2_int max_two min_two max_three min_three max_four min_four   
set_option linter.unusedVariables false
set_option linter.unusedSimpArgs false
open Go.Proofs.Ytocicifgglkaeaa.Ext Go.Proofs.Ytocicifgglkaeaa.PP Go.Proofs.Ytocicifgglkaeaa.ExtF Go.Proofs.Ytocicifgglkaeaa.PQ Go.Proofs.Ytocicifgglkaeaa.ExtM
mutual
def basculeref03_AnswerBytes.j0 : Nat → List Int → Int → Bool → Int → Int → Int → List Int → Int → Int → Int → List Int → Int → Option (List Int)
 | 0, _, _, _, _, _, _, _, _, _, _, _, _ => none
 | k + 1, x5, x22, x23, x277000, x277001, x277002, x277003, x277004, x277005, x277006, x278000, x278001 => if x23 = true then ((basculeref01_Pack.f k x278000).bind fun t284 => ((basculeref03_counted.f t284).bind fun t287 => (if x5.length + t287.length < 140737488355328 then (some (x5 ++ t287)) else (none)))) else (if x22 = 3 then (basculeref03_AnswerBytes.j1 k x5 x22 (x22 == 3) x277000 x277001 x277002 x277003 x277004 x277005 x277006 x278000 x278001) else (if x22 = 4 then (basculeref03_AnswerBytes.j1 k x5 x22 (x22 == 4) x277000 x277001 x277002 x277003 x277004 x277005 x277006 x278000 x278001) else (basculeref03_AnswerBytes.j1 k x5 x22 (x22 == 23) x277000 x277001 x277002 x277003 x277004 x277005 x277006 x278000 x278001)))
def basculeref03_AnswerBytes.j1 : Nat → List Int → Int → Bool → Int → Int → Int → List Int → Int → Int → Int → List Int → Int → Option (List Int)
 | 0, _, _, _, _, _, _, _, _, _, _, _, _ => none
 | k + 1, x5, x22, x33, x277000, x277001, x277002, x277003, x277004, x277005, x277006, x278000, x278001 => if x33 = true then ((basculeref03_lay.f k x278000).bind fun t293 => ((basculeref03_counted.f t293).bind fun t296 => (if x5.length + t296.length < 140737488355328 then (some (x5 ++ t296)) else (none)))) else (if x22 = 15 then (basculeref03_AnswerBytes.j2 k x5 (x22 == 15) x277000 x277001 x277002 x277003 x277004 x277005 x277006) else (basculeref03_AnswerBytes.j2 k x5 (x22 == 16) x277000 x277001 x277002 x277003 x277004 x277005 x277006))
def basculeref03_AnswerBytes.j2 : Nat → List Int → Bool → Int → Int → Int → List Int → Int → Int → Int → Option (List Int)
 | 0, _, _, _, _, _, _, _, _, _ => none
 | k + 1, x5, x44, x277000, x277001, x277002, x277003, x277004, x277005, x277006 => if x44 = true then ((basculeref03_lay.f k (([x277001, x277002] : List Int))).bind fun t305 => (if x5.length + t305.length < 140737488355328 then (some (x5 ++ t305)) else (none))) else ((basculeref03_Bytes.f k x277000 x277001 x277002 x277003 x277004 x277005 x277006).bind fun t311 => (some t311))
end
def basculeref03_AnswerBytes.f (k : Nat) (a0_0 : Int) (a0_1 : Int) (a0_2 : Int) (l0_3 : List Int) (a0_4 : Int) (a0_5 : Int) (a0_6 : Int) (l1_0 : List Int) (a1_1 : Int) : Option (List Int) := if a1_1 = 0 then ((some (([(a0_0) % 256] : List Int) : List Int)).bind fun y281 => (if a0_0 = 1 then (basculeref03_AnswerBytes.j0 k y281 a0_0 (a0_0 == 1) a0_0 a0_1 a0_2 l0_3 a0_4 a0_5 a0_6 l1_0 a1_1) else (basculeref03_AnswerBytes.j0 k y281 a0_0 (a0_0 == 2) a0_0 a0_1 a0_2 l0_3 a0_4 a0_5 a0_6 l1_0 a1_1))) else (some (([(wrap64 (a0_0 + 128)) % 256, (a1_1) % 256] : List Int)))
theorem basculeref03_AnswerBytes.mono_l : ∀ k, (∀ y0 y1 y2 y3 y4 y5 y6 y7 y8 y9 y10 y11, LeO (basculeref03_AnswerBytes.j0 k y0 y1 y2 y3 y4 y5 y6 y7 y8 y9 y10 y11) (basculeref03_AnswerBytes.j0 (k + 1) y0 y1 y2 y3 y4 y5 y6 y7 y8 y9 y10 y11)) ∧ (∀ y0 y1 y2 y3 y4 y5 y6 y7 y8 y9 y10 y11, LeO (basculeref03_AnswerBytes.j1 k y0 y1 y2 y3 y4 y5 y6 y7 y8 y9 y10 y11) (basculeref03_AnswerBytes.j1 (k + 1) y0 y1 y2 y3 y4 y5 y6 y7 y8 y9 y10 y11)) ∧ (∀ y0 y1 y2 y3 y4 y5 y6 y7 y8, LeO (basculeref03_AnswerBytes.j2 k y0 y1 y2 y3 y4 y5 y6 y7 y8) (basculeref03_AnswerBytes.j2 (k + 1) y0 y1 y2 y3 y4 y5 y6 y7 y8))
 | 0 => ⟨fun _ _ _ _ _ _ _ _ _ _ _ _ r h => by simp [basculeref03_AnswerBytes.j0] at h, fun _ _ _ _ _ _ _ _ _ _ _ _ r h => by simp [basculeref03_AnswerBytes.j1] at h, fun _ _ _ _ _ _ _ _ _ r h => by simp [basculeref03_AnswerBytes.j2] at h⟩
 | k + 1 => by
  obtain ⟨ih0, ih1, ih2⟩ := basculeref03_AnswerBytes.mono_l k
  refine ⟨?_, ?_, ?_⟩
  ·intro y0 y1 y2 y3 y4 y5 y6 y7 y8 y9 y10 y11
   unfold basculeref03_AnswerBytes.j0
   repeat' first
   | (with_reducible exact ih0 _ _ _ _ _ _ _ _ _ _ _ _)
   | (with_reducible exact ih1 _ _ _ _ _ _ _ _ _ _ _ _)
   | (with_reducible exact ih2 _ _ _ _ _ _ _ _ _)
   | (with_reducible exact basculeref01_Pack.mono _ _)
   | (with_reducible exact basculeref03_Bytes.mono _ _ _ _ _ _ _ _)
   | (with_reducible exact basculeref03_lay.mono _ _)
   | (with_reducible exact LeO.refl _)
   | (with_reducible exact LeO.none _)
   | (with_reducible refine LeO.ite ?_ ?_)
   | (with_reducible refine LeO.bind ?_ (fun _ => ?_))
   | exact ih0 _ _ _ _ _ _ _ _ _ _ _ _
   | exact ih1 _ _ _ _ _ _ _ _ _ _ _ _
   | exact ih2 _ _ _ _ _ _ _ _ _
   | exact basculeref01_Pack.mono _ _
   | exact basculeref03_Bytes.mono _ _ _ _ _ _ _ _
   | exact basculeref03_lay.mono _ _
   | exact LeO.none _
   | refine LeO.ite ?_ ?_
   | refine LeO.bind ?_ (fun _ => ?_)
  ·intro y0 y1 y2 y3 y4 y5 y6 y7 y8 y9 y10 y11
   unfold basculeref03_AnswerBytes.j1
   repeat' first
   | (with_reducible exact ih0 _ _ _ _ _ _ _ _ _ _ _ _)
   | (with_reducible exact ih1 _ _ _ _ _ _ _ _ _ _ _ _)
   | (with_reducible exact ih2 _ _ _ _ _ _ _ _ _)
   | (with_reducible exact basculeref01_Pack.mono _ _)
   | (with_reducible exact basculeref03_Bytes.mono _ _ _ _ _ _ _ _)
   | (with_reducible exact basculeref03_lay.mono _ _)
   | (with_reducible exact LeO.refl _)
   | (with_reducible exact LeO.none _)
   | (with_reducible refine LeO.ite ?_ ?_)
   | (with_reducible refine LeO.bind ?_ (fun _ => ?_))
   | exact ih0 _ _ _ _ _ _ _ _ _ _ _ _
   | exact ih1 _ _ _ _ _ _ _ _ _ _ _ _
   | exact ih2 _ _ _ _ _ _ _ _ _
   | exact basculeref01_Pack.mono _ _
   | exact basculeref03_Bytes.mono _ _ _ _ _ _ _ _
   | exact basculeref03_lay.mono _ _
   | exact LeO.none _
   | refine LeO.ite ?_ ?_
   | refine LeO.bind ?_ (fun _ => ?_)
  ·intro y0 y1 y2 y3 y4 y5 y6 y7 y8
   unfold basculeref03_AnswerBytes.j2
   repeat' first
   | (with_reducible exact ih0 _ _ _ _ _ _ _ _ _ _ _ _)
   | (with_reducible exact ih1 _ _ _ _ _ _ _ _ _ _ _ _)
   | (with_reducible exact ih2 _ _ _ _ _ _ _ _ _)
   | (with_reducible exact basculeref01_Pack.mono _ _)
   | (with_reducible exact basculeref03_Bytes.mono _ _ _ _ _ _ _ _)
   | (with_reducible exact basculeref03_lay.mono _ _)
   | (with_reducible exact LeO.refl _)
   | (with_reducible exact LeO.none _)
   | (with_reducible refine LeO.ite ?_ ?_)
   | (with_reducible refine LeO.bind ?_ (fun _ => ?_))
   | exact ih0 _ _ _ _ _ _ _ _ _ _ _ _
   | exact ih1 _ _ _ _ _ _ _ _ _ _ _ _
   | exact ih2 _ _ _ _ _ _ _ _ _
   | exact basculeref01_Pack.mono _ _
   | exact basculeref03_Bytes.mono _ _ _ _ _ _ _ _
   | exact basculeref03_lay.mono _ _
   | exact LeO.none _
   | refine LeO.ite ?_ ?_
   | refine LeO.bind ?_ (fun _ => ?_)
theorem basculeref03_AnswerBytes.mono : ∀ a0 a1 a2 a3 a4 a5 a6 a7 a8 k, LeO (basculeref03_AnswerBytes.f k a0 a1 a2 a3 a4 a5 a6 a7 a8) (basculeref03_AnswerBytes.f (k + 1) a0 a1 a2 a3 a4 a5 a6 a7 a8) := by
 intro a0 a1 a2 a3 a4 a5 a6 a7 a8 k
 obtain ⟨ih0, ih1, ih2⟩ := basculeref03_AnswerBytes.mono_l k
 unfold basculeref03_AnswerBytes.f
 repeat' first
  | (with_reducible exact ih0 _ _ _ _ _ _ _ _ _ _ _ _)
  | (with_reducible exact ih1 _ _ _ _ _ _ _ _ _ _ _ _)
  | (with_reducible exact ih2 _ _ _ _ _ _ _ _ _)
  | (with_reducible exact basculeref01_Pack.mono _ _)
  | (with_reducible exact basculeref03_Bytes.mono _ _ _ _ _ _ _ _)
  | (with_reducible exact basculeref03_lay.mono _ _)
  | (with_reducible exact LeO.refl _)
  | (with_reducible exact LeO.none _)
  | (with_reducible refine LeO.ite ?_ ?_)
  | (with_reducible refine LeO.bind ?_ (fun _ => ?_))
  | exact ih0 _ _ _ _ _ _ _ _ _ _ _ _
  | exact ih1 _ _ _ _ _ _ _ _ _ _ _ _
  | exact ih2 _ _ _ _ _ _ _ _ _
  | exact basculeref01_Pack.mono _ _
  | exact basculeref03_Bytes.mono _ _ _ _ _ _ _ _
  | exact basculeref03_lay.mono _ _
  | exact LeO.none _
  | refine LeO.ite ?_ ?_
  | refine LeO.bind ?_ (fun _ => ?_)
set_option maxHeartbeats 8000000 in
set_option maxRecDepth 100000 in
theorem basculeref03_AnswerBytes.calls (k : Nat) (a0_0 : Int) (a0_1 : Int) (a0_2 : Int) (A0_3 : Option Addr) (c0_3 : Nat) (l0_3 : List Int) (a0_4 : Int) (a0_5 : Int) (a0_6 : Int) (A1_0 : Option Addr) (c1_0 : Nat) (l1_0 : List Int) (a1_1 : Int) (r : List Int) (w : World) (hr0_3 : Kd.C (Kd.int .i64) w A0_3 l0_3.length l0_3) (hc0_3 : l0_3.length ≤ c0_3) (hr1_0 : Kd.C (Kd.int .i64) w A1_0 l1_0.length l1_0) (hc1_0 : l1_0.length ≤ c1_0) (h : basculeref03_AnswerBytes.f k a0_0 a0_1 a0_2 l0_3 a0_4 a0_5 a0_6 l1_0 a1_1 = some r) :
 Calls Try.prog 38 #[.agg #[.int .i64 a0_0, .int .i64 a0_1, .int .i64 a0_2, .slice A0_3 l0_3.length c0_3, .int .i64 a0_4, .int .i64 a0_5, .int .i64 a0_6], .agg #[.slice A1_0 l1_0.length c1_0, .int .i64 a1_1]] w fun e w' => ∃ v0_ : Value, e = .returned (v0_) ∧ Kd.R (Kd.int .u8) 5 w' w.heap.size (fun _ => True) v0_ r ∧ Below w.heap.size w w' := by
 have hu24 := Try.underlying24
 have hu30 := Try.underlying30
 have HR0_3 := Aside0.mk hr0_3
 have HC0_3 := Aside0.mk hc0_3
 clear hr0_3 hc0_3
 have HR1_0 := Aside0.mk hr1_0
 have HC1_0 := Aside0.mk hc1_0
 clear hr1_0 hc1_0
 have HB := Aside0.mk (Below.refl w.heap.size w)
 have H : (if a1_1 = 0 then ((some (([(a0_0) % 256] : List Int) : List Int)).bind fun y281 => (if a0_0 = 1 then (basculeref03_AnswerBytes.j0 k y281 a0_0 (a0_0 == 1) a0_0 a0_1 a0_2 l0_3 a0_4 a0_5 a0_6 l1_0 a1_1) else (basculeref03_AnswerBytes.j0 k y281 a0_0 (a0_0 == 2) a0_0 a0_1 a0_2 l0_3 a0_4 a0_5 a0_6 l1_0 a1_1))) else (some (([(wrap64 (a0_0 + 128)) % 256, (a1_1) % 256] : List Int)))) = some r := h
 clear h
 by_cases c3 : a1_1 = 0
 ·rw [if_pos c3] at H
  have c3b0 : (a1_1 == 0) = true := beq_iff_eq.mpr c3
  have c3b1 : (a1_1 != 0) = false := bne_eq_false_iff_eq.mpr c3
  clear c3
  obtain ⟨y281, hy281⟩ : ∃ y_ : List Int, y_ = (([(a0_0) % 256] : List Int)) := ⟨_, rfl⟩
  replace H : (if a0_0 = 1 then (basculeref03_AnswerBytes.j0 k y281 a0_0 (a0_0 == 1) a0_0 a0_1 a0_2 l0_3 a0_4 a0_5 a0_6 l1_0 a1_1) else (basculeref03_AnswerBytes.j0 k y281 a0_0 (a0_0 == 2) a0_0 a0_1 a0_2 l0_3 a0_4 a0_5 a0_6 l1_0 a1_1)) = some r := by first | (rw [hy281]; with_reducible exact H) | (have H2_ := (Option.bind_some _ _).symm.trans H; rw [hy281]; with_reducible exact H2_) | (have H2_ := (Option.bind_some _ _).symm.trans H; with_reducible exact H2_) | with_reducible exact H | (rw [hy281]; exact H) | exact H
  have Ny281 := Aside0.mk hy281
  clear hy281
  have HC4 := Aside0.mk H
  clear H
  go_enter Try.func38, Try.ntmps38
  go_upto_if 23 with (first | ((with_reducible refine gate_dst (N := 2) rfl ?_); refine bx_ (N := 2) (cs := #[.int .i64 a0_0, .int .i64 a0_1, .int .i64 a0_2, .slice A0_3 l0_3.length c0_3, .int .i64 a0_4, .int .i64 a0_5, .int .i64 a0_6]) (t := 24) ?_; intro gb276 hg w5 hbox hb; have n0_ := Aside0.mk (below_step (bl0_ HB) hb); have n1_ := Aside0.mk (hbox); have n2_ := Aside0.mk ((by rw [hg]; exact (below_size (bl0_ HB)) : w.heap.size ≤ gb276)); have n3_ := Aside0.mk ((by rw [hg]; exact (below_size (bl0_ HB)) : w.heap.size ≤ gb276)); clear HB; have HB := n0_; have BK276 := n1_; have GW276 := n2_; have GE276 := n3_; clear n0_ n1_ n2_ n3_; clear hb hbox hg) | ((with_reducible refine gate_dst (N := 3) rfl ?_); refine bx_ (N := 3) (cs := #[.slice A1_0 l1_0.length c1_0, .int .i64 a1_1]) (t := 30) ?_; intro gb277 hg w6 hbox hb; have n0_ := Aside0.mk (blk_below (g := gb276) (bk_ BK276) hb); have n1_ := Aside0.mk (below_step (bl1_ HB GE276) hb); have n2_ := Aside0.mk (hbox); have n3_ := Aside0.mk ((by rw [hg]; exact (below_size (bl1_ HB GE276)) : w.heap.size ≤ gb277)); have n4_ := Aside0.mk ((by rw [hg]; exact (below_size (bl1_ HB GE276)) : w.heap.size ≤ gb277)); have n5_ := Aside0.mk ((by rw [hg]; exact Nat.ne_of_lt (blk_lt (g := gb276) (bk_ BK276)) : gb276 ≠ gb277)); have n6_ := Aside0.mk ((by rw [hg]; exact Nat.ne_of_gt (blk_lt (g := gb276) (bk_ BK276)) : gb277 ≠ gb276)); clear BK276; clear HB; have BK276 := n0_; have HB := n1_; have BK277 := n2_; have GW277 := n3_; have GE277 := n4_; have NB276_277 := n5_; have NB277_276 := n6_; clear n0_ n1_ n2_ n3_ n4_ n5_ n6_; clear hb hbox hg; have hnb7 := NB277_276.out; have hnc7 := NB276_277.out; refine cz2_ BK277.out ?_; intro hcz8_0 hcz8_1 hfz8_0 hfz8_1; refine cz7_ BK276.out ?_; intro hcz9_0 hcz9_1 hcz9_2 hcz9_3 hcz9_4 hcz9_5 hcz9_6 hfz9_0 hfz9_1 hfz9_2 hfz9_3 hfz9_4 hfz9_5 hfz9_6) | ((with_reducible refine gate_dst (N := 20) rfl ?_); refine Kd.R_lit (Kd.int .u8) _ 5 ?hg (N := 20) ?hd (xs := ([(a0_0) % 256] : List Int)) (inner := [.int .u8 ((a0_0) % 256)]) (ok := fun _ => True) (okp := fun _ => True) ?hr ?hp (fun _ hk => hk) trivial (Below.refl _ _) (Nat.le_refl _) (by simp) ?_; (case hd => rfl); (case hg => rfl); (case hr => first | (go_simp; done) | (go_simp; rfl)); (case hp => exact (Reps.one (show Kd.M (Kd.int .u8) _ _ _ ((a0_0) % 256) [.int .u8 ((a0_0) % 256)] from rfl) (Reps.none _ _))); intro v282 w10 ho11 hb hg_ hnew_; clear hg_ hnew_; (first | rw [← Ny281.out] at ho11 | (simp only [Int.reduceToNat] at ho11; rw [← Ny281.out] at ho11)); have n0_ := Aside0.mk (Kd.R_lower ho11 (below_size (bl2_ HB GE276 GE277))); have n1_ := Aside0.mk (blk_below (g := gb276) (bk_ BK276) hb); have n2_ := Aside0.mk (blk_below (g := gb277) (bk_ BK277) hb); have n3_ := Aside0.mk (below_step (bl2_ HB GE276 GE277) hb); clear BK276; clear BK277; clear HB; have HO283 := n0_; have BK276 := n1_; have BK277 := n2_; have HB := n3_; clear n0_ n1_ n2_ n3_; clear hb ho11; refine cz7_ BK276.out ?_; intro hcz12_0 hcz12_1 hcz12_2 hcz12_3 hcz12_4 hcz12_5 hcz12_6 hfz12_0 hfz12_1 hfz12_2 hfz12_3 hfz12_4 hfz12_5 hfz12_6))
  (try simp only [Act.put, List.setIfInBounds_toArray, List.set_cons_zero, List.set_cons_succ])
  go_cut [23] (fun v23 wc => ∃ (kq : Nat) (x23_3 : Bool), v23 = .bool x23_3 ∧ Aside0 (basculeref03_AnswerBytes.j0 kq y281 a0_0 x23_3 a0_0 a0_1 a0_2 l0_3 a0_4 a0_5 a0_6 l1_0 a1_1 = some r) ∧ Aside0 (kq ≤ k) ∧ Aside0 (Kd.R (Kd.int .u8) 5 wc w.heap.size (fun _ => True) v282 y281) ∧ Aside0 (wc.heap[gb276]? = some (.cells #[.int .i64 a0_0, .int .i64 a0_1, .int .i64 a0_2, (.slice A0_3 l0_3.length c0_3), .int .i64 a0_4, .int .i64 a0_5, .int .i64 a0_6] 24 (0, 0))) ∧ Aside0 (wc.heap[gb277]? = some (.cells #[(.slice A1_0 l1_0.length c1_0), .int .i64 a1_1] 30 (0, 0))) ∧ Aside0 (Below w.heap.size w wc))
  case first =>
   have H := HC4.out
   clear HC4
   by_cases c13 : a0_0 = 1
   ·rw [if_pos c13] at H
    have c13b0 : (a0_0 == 1) = true := beq_iff_eq.mpr c13
    have c13b1 : (a0_0 != 1) = false := bne_eq_false_iff_eq.mpr c13
    clear c13
    (first | rw [c13b0] | (simp only [i64_w, i32_w]; rw [c13b0]) | skip)
    have H' := Aside0.mk H
    clear H
    go_wp2
    go_meet
    case rel => exact ⟨_, ((a0_0 == 1)), (by first | rfl | (simp; done) | (simp [*]; done)), H', ⟨by first | omega | exact Nat.le_refl _⟩, ⟨kr_ HO283⟩, ⟨bk_ BK276⟩, ⟨bk_ BK277⟩, ⟨bl2_ HB GE276 GE277⟩⟩
   ·rw [if_neg c13] at H
    have c13b0 : (a0_0 == 1) = false := beq_eq_false_iff_ne.mpr c13
    have c13b1 : (a0_0 != 1) = true := bne_iff_ne.mpr c13
    (first | rw [c13b0] | (simp only [i64_w, i32_w]; rw [c13b0]) | skip)
    have H' := Aside0.mk H
    clear H
    go_wp2
    go_meet
    case rel => exact ⟨_, ((a0_0 == 2)), (by first | rfl | (simp; done) | (simp [*]; done)), H', ⟨by first | omega | exact Nat.le_refl _⟩, ⟨kr_ HO283⟩, ⟨bk_ BK276⟩, ⟨bk_ BK277⟩, ⟨bl2_ HB GE276 GE277⟩⟩
  case rest =>
   clear HC4
   try clear c1
   try clear p2
   try clear c3
   try clear c3b0
   try clear c3b1
   try clear p6
   try clear c7
   try clear c13
   try clear c13b0
   try clear c13b1
   try clear hcz12_0 hcz12_1 hcz12_2 hcz12_3 hcz12_4 hcz12_5 hcz12_6
   try clear hcz8_0 hcz8_1
   try clear hcz9_0 hcz9_1 hcz9_2 hcz9_3 hcz9_4 hcz9_5 hcz9_6
   try clear hfz12_0 hfz12_1 hfz12_2 hfz12_3 hfz12_4 hfz12_5 hfz12_6
   try clear hfz8_0 hfz8_1
   try clear hfz9_0 hfz9_1 hfz9_2 hfz9_3 hfz9_4 hfz9_5 hfz9_6
   obtain ⟨kq, x23_3, rfl, HA, HJ3, HO_5, BK276, BK277, HB⟩ := hcut
   cases kq with
   | zero => exact absurd HA.out (by simp [basculeref03_AnswerBytes.j0])
   | succ kj3 =>
    have H := HA.out
    clear HA
    simp only [basculeref03_AnswerBytes.j0] at H
    by_cases c14 : x23_3 = true
    ·subst c14
     have H1 : ((basculeref01_Pack.f kj3 l1_0).bind fun t284 => ((basculeref03_counted.f t284).bind fun t287 => (if y281.length + t287.length < 140737488355328 then (some (y281 ++ t287)) else (none)))) = some r := by rw [if_pos rfl] at H; exact H
     clear H
     have H := H1
     clear H1
     replace H := Option.bind_eq_some_iff.mp H
     obtain ⟨t284, A150, H⟩ := H
     replace H : ((basculeref03_counted.f t284).bind fun t287 => (if y281.length + t287.length < 140737488355328 then (some (y281 ++ t287)) else (none))) = some r := H
     have A15 := Aside0.mk A150
     clear A150
     replace H := Option.bind_eq_some_iff.mp H
     obtain ⟨t287, A160, H⟩ := H
     replace H : (if y281.length + t287.length < 140737488355328 then (some (y281 ++ t287)) else (none)) = some r := H
     have A16 := Aside0.mk A160
     clear A160
     by_cases c17 : y281.length + t287.length < 140737488355328
     ·rw [if_pos c17] at H
      have LMc17 := Aside0.mk c17
      clear c17
      obtain ⟨y290, hy290⟩ : ∃ y_ : List Int, y_ = (y281 ++ t287) := ⟨_, rfl⟩
      replace H : (some y290) = some r := by first | (rw [hy290]; with_reducible exact H) | (have H2_ := (Option.bind_some _ _).symm.trans H; rw [hy290]; with_reducible exact H2_) | (have H2_ := (Option.bind_some _ _).symm.trans H; with_reducible exact H2_) | with_reducible exact H | (rw [hy290]; exact H) | exact H
      have Ny290 := Aside0.mk hy290
      clear hy290
      obtain rfl := Option.some.inj H
      have hnb18 := NB277_276.out
      have hnc18 := NB276_277.out
      refine cz2_ BK277.out ?_; intro hcz19_0 hcz19_1 hfz19_0 hfz19_1
      go_wp2_with (first | ((with_reducible refine gate_callee (f := 58) rfl ?_); refine goesL_ (some 29) rfl rfl Try.func58 (by kernel_rfl) rfl #[.slice A1_0 l1_0.length c1_0] rfl ar_ ?_; (with_reducible refine (basculeref01_Pack.calls kj3 _ _ l1_0 t284 _ ?side1 ?side2 A15.out).mono ?_); (case side1 => exact sc_ (Kd.C_below HR1_0.out HB.out)); (case side2 => exact HC1_0.out); rintro e w20 ⟨v285, rfl, ho0, hb⟩; refine ⟨_, rfl, ?_⟩; have n0_ := Aside0.mk (Kd.R_elder' (kr_ HO_5) (Kd.R_base ho0) hb); have n1_ := Aside0.mk (Kd.R_lower (Kd.R_new' ho0 (Kd.R_lt (kr_ HO_5))) (below_size (bl2_ HB GE276 GE277))); have n2_ := Aside0.mk (blk_below (g := gb276) (bk_ BK276) hb); have n3_ := Aside0.mk (blk_below (g := gb277) (bk_ BK277) hb); have n4_ := Aside0.mk (below_step (bl2_ HB GE276 GE277) hb); clear HO_5; clear BK276; clear BK277; clear HB; have HO_5 := n0_; have HO286 := n1_; have BK276 := n2_; have BK277 := n3_; have HB := n4_; clear n0_ n1_ n2_ n3_ n4_; (try clear hb); (try clear hb2); (try clear hk); (try clear hi); (try clear ho0); obtain ⟨Ao21, co21, eo21⟩ := Kd.R_slice HO286.out; subst eo21) | ((with_reducible refine gate_callee (f := 57) rfl ?_); refine goesL_ (some 30) rfl rfl Try.func57 (by kernel_rfl) rfl #[.slice Ao21 t284.length co21] rfl ar_ ?_; (with_reducible refine (basculeref03_counted.calls _ _ t284 t287 _ ?side1 ?side2 A16.out).mono ?_); (case side1 => exact sc_ (Kd.R_reads' HO286.out).2.2); (case side2 => exact (Kd.R_reads' HO286.out).2.1); rintro e w22 ⟨v288, rfl, ho0, hb⟩; refine ⟨_, rfl, ?_⟩; have n0_ := Aside0.mk (Kd.R_elder' (kr_ HO_5) (Kd.R_base ho0) hb); have n1_ := Aside0.mk (Kd.R_elder' (kr_ HO286) (Kd.R_base ho0) hb); have n2_ := Aside0.mk (Kd.R_lower (Kd.R_new' (Kd.R_new' ho0 (Kd.R_lt (kr_ HO_5))) (Kd.R_lt (kr_ HO286))) (below_size (bl2_ HB GE276 GE277))); have n3_ := Aside0.mk (blk_below (g := gb276) (bk_ BK276) hb); have n4_ := Aside0.mk (blk_below (g := gb277) (bk_ BK277) hb); have n5_ := Aside0.mk (below_step (bl2_ HB GE276 GE277) hb); clear HO_5; clear HO286; clear BK276; clear BK277; clear HB; have HO_5 := n0_; have HO286 := n1_; have HO289 := n2_; have BK276 := n3_; have BK277 := n4_; have HB := n5_; clear n0_ n1_ n2_ n3_ n4_ n5_; (try clear hb); (try clear hb2); (try clear hk); (try clear hi); (try clear ho0); obtain ⟨Ao24, co24, eo24⟩ := Kd.R_slice HO289.out; subst eo24) | ((with_reducible refine gate_builtin (b := .append) (xs := #[.tmp 26, .tmp 30]) rfl ?_); at_builtin; refine Kd.R_append_rows (Kd.int .u8) (w0 := w) w.heap.size rfl (.tmp 26) (.tmp 30) 58 5 (.int .u8 0) 1 rfl Try.underlying58 info5 rfl (by decide) (by omega) v282 y281 t287 _ _ _ (fun k_ => some k_ ≠ (.slice Ao21 t284.length co21 : Value).ownBlock ∧ some k_ ≠ (.slice Ao24 t287.length co24 : Value).ownBlock) (fun _ => False) rfl rfl ?aO ?aR (fun _ _ h => h) (fun _ h => h.elim) ?aF ?aB ?aS ?aL ?_; (case aR => exact sc_ (Kd.R_reads' HO289.out).2.2); (case aB => exact (bl2_ HB GE276 GE277)); (case aF => exact (fun k_ hk => ⟨Kd.fresh' (Kd.R_lt (kr_ HO286)) k_ hk, Kd.fresh' (Kd.R_lt (kr_ HO289)) k_ hk⟩)); (case aO => exact (by (with_reducible repeat (first | apply Kd.R_alloc | apply Kd.R_drewN | apply Kd.R_drew)); exact Kd.R_mono HO_5.out (fun _ hk => ⟨hk.1.2, hk.2⟩))); (case aS => exact (below_size (bl2_ HB GE276 GE277))); (case aL => have := LMc17.out; omega); intro v291 w23 ho hb hg hat; rw [← Ny290.out] at ho; have n0_ := Aside0.mk (blk_grown (g := gb276) (bk_ BK276) hg (Kd.R_ne HO_5.out BK276.out (by decide))); have n1_ := Aside0.mk (blk_grown (g := gb277) (bk_ BK277) hg (Kd.R_ne HO_5.out BK277.out (by decide))); have n2_ := Aside0.mk (Kd.R_after (ok := (fun k_ => some k_ ≠ (.slice Ao24 t287.length co24 : Value).ownBlock)) (by (with_reducible repeat (first | apply Kd.R_alloc | apply Kd.R_drewN | apply Kd.R_drew)); exact Kd.R_mono HO286.out (fun _ hk => ⟨hk.2, hk.1.2⟩)) hg hat); have n3_ := Aside0.mk (Kd.R_after (ok := (fun k_ => some k_ ≠ (.slice Ao21 t284.length co21 : Value).ownBlock)) (by (with_reducible repeat (first | apply Kd.R_alloc | apply Kd.R_drewN | apply Kd.R_drew)); exact Kd.R_mono HO289.out (fun _ hk => ⟨hk.2, hk.1.2⟩)) hg hat); have n4_ := Aside0.mk (hb); have n5_ := Aside0.mk (ho); clear BK276; clear BK277; clear HO286; clear HO289; clear HB; clear HO_5; have BK276 := n0_; have BK277 := n1_; have HO286 := n2_; have HO289 := n3_; have HB := n4_; have HO292 := n5_; clear n0_ n1_ n2_ n3_ n4_ n5_; clear ho hb hg hat))
      go_ret
      exact ⟨_, er_, by (with_reducible repeat (first | apply Kd.R_alloc | apply Kd.R_drewN | apply Kd.R_drew)); exact Kd.R_mono HO292.out (fun _ hk => trivial), bl2_ HB GE276 GE277⟩
     ·rw [if_neg c17] at H
      exact absurd H (by simp)
    ·replace c14 := Bool.eq_false_iff.mpr c14
     subst c14
     have H1 : (if a0_0 = 3 then (basculeref03_AnswerBytes.j1 kj3 y281 a0_0 (a0_0 == 3) a0_0 a0_1 a0_2 l0_3 a0_4 a0_5 a0_6 l1_0 a1_1) else (if a0_0 = 4 then (basculeref03_AnswerBytes.j1 kj3 y281 a0_0 (a0_0 == 4) a0_0 a0_1 a0_2 l0_3 a0_4 a0_5 a0_6 l1_0 a1_1) else (basculeref03_AnswerBytes.j1 kj3 y281 a0_0 (a0_0 == 23) a0_0 a0_1 a0_2 l0_3 a0_4 a0_5 a0_6 l1_0 a1_1))) = some r := by rw [if_neg (show ¬ (false = true) by decide)] at H; exact H
     clear H
     have H := H1
     clear H1
     have HC25 := Aside0.mk H
     clear H
     go_upto_if 33 with (fail)
     go_cut [33] (fun v33 wc => ∃ (kq : Nat) (x33_24 : Bool), v33 = .bool x33_24 ∧ Aside0 (basculeref03_AnswerBytes.j1 kq y281 a0_0 x33_24 a0_0 a0_1 a0_2 l0_3 a0_4 a0_5 a0_6 l1_0 a1_1 = some r) ∧ Aside0 (kq ≤ kj3) ∧ Aside0 (Kd.R (Kd.int .u8) 5 wc w.heap.size (fun _ => True) v282 y281) ∧ Aside0 (wc.heap[gb276]? = some (.cells #[.int .i64 a0_0, .int .i64 a0_1, .int .i64 a0_2, (.slice A0_3 l0_3.length c0_3), .int .i64 a0_4, .int .i64 a0_5, .int .i64 a0_6] 24 (0, 0))) ∧ Aside0 (wc.heap[gb277]? = some (.cells #[(.slice A1_0 l1_0.length c1_0), .int .i64 a1_1] 30 (0, 0))) ∧ Aside0 (Below w.heap.size w wc))
     case first =>
      have H := HC25.out
      clear HC25
      by_cases c26 : a0_0 = 3
      ·rw [if_pos c26] at H
       have c26b0 : (a0_0 == 3) = true := beq_iff_eq.mpr c26
       have c26b1 : (a0_0 != 3) = false := bne_eq_false_iff_eq.mpr c26
       clear c26
       (first | rw [c26b0] | (simp only [i64_w, i32_w]; rw [c26b0]) | skip)
       have H' := Aside0.mk H
       clear H
       go_wp2
       go_meet
       case rel => exact ⟨_, ((a0_0 == 3)), (by first | rfl | (simp; done) | (simp [*]; done)), H', ⟨by have := HJ3.out; first | omega | exact Nat.le_refl _⟩, ⟨kr_ HO_5⟩, ⟨bk_ BK276⟩, ⟨bk_ BK277⟩, ⟨bl2_ HB GE276 GE277⟩⟩
      ·rw [if_neg c26] at H
       have c26b0 : (a0_0 == 3) = false := beq_eq_false_iff_ne.mpr c26
       have c26b1 : (a0_0 != 3) = true := bne_iff_ne.mpr c26
       (first | rw [c26b0] | (simp only [i64_w, i32_w]; rw [c26b0]) | skip)
       by_cases c27 : a0_0 = 4
       ·rw [if_pos c27] at H
        have c27b0 : (a0_0 == 4) = true := beq_iff_eq.mpr c27
        have c27b1 : (a0_0 != 4) = false := bne_eq_false_iff_eq.mpr c27
        clear c27
        have H' := Aside0.mk H
        clear H
        go_wp2
        go_meet
        case rel => exact ⟨_, ((a0_0 == 4)), (by first | rfl | (simp; done) | (simp [*]; done)), H', ⟨by have := HJ3.out; first | omega | exact Nat.le_refl _⟩, ⟨kr_ HO_5⟩, ⟨bk_ BK276⟩, ⟨bk_ BK277⟩, ⟨bl2_ HB GE276 GE277⟩⟩
       ·rw [if_neg c27] at H
        have c27b0 : (a0_0 == 4) = false := beq_eq_false_iff_ne.mpr c27
        have c27b1 : (a0_0 != 4) = true := bne_iff_ne.mpr c27
        have H' := Aside0.mk H
        clear H
        go_wp2
        go_meet
        case rel => exact ⟨_, ((a0_0 == 23)), (by first | rfl | (simp; done) | (simp [*]; done)), H', ⟨by have := HJ3.out; first | omega | exact Nat.le_refl _⟩, ⟨kr_ HO_5⟩, ⟨bk_ BK276⟩, ⟨bk_ BK277⟩, ⟨bl2_ HB GE276 GE277⟩⟩
     case rest =>
      clear HC25
      try clear c1
      try clear c2
      try clear p2
      try clear c3
      try clear c3b0
      try clear c3b1
      try clear c5
      try clear p6
      try clear c7
      try clear c13
      try clear c13b0
      try clear c13b1
      try clear c14
      try clear c17
      try clear c18
      try clear c26
      try clear c26b0
      try clear c26b1
      try clear c27
      try clear c27b0
      try clear c27b1
      try clear hcz12_0 hcz12_1 hcz12_2 hcz12_3 hcz12_4 hcz12_5 hcz12_6
      try clear hcz19_0 hcz19_1
      try clear hcz8_0 hcz8_1
      try clear hcz9_0 hcz9_1 hcz9_2 hcz9_3 hcz9_4 hcz9_5 hcz9_6
      try clear hfz12_0 hfz12_1 hfz12_2 hfz12_3 hfz12_4 hfz12_5 hfz12_6
      try clear hfz19_0 hfz19_1
      try clear hfz8_0 hfz8_1
      try clear hfz9_0 hfz9_1 hfz9_2 hfz9_3 hfz9_4 hfz9_5 hfz9_6
      try clear p2
      try clear p6
      obtain ⟨kq, x33_24, rfl, HA, HJ24, HO_5, BK276, BK277, HB⟩ := hcut
      cases kq with
      | zero => exact absurd HA.out (by simp [basculeref03_AnswerBytes.j1])
      | succ kj24 =>
       have H := HA.out
       clear HA
       simp only [basculeref03_AnswerBytes.j1] at H
       by_cases c28 : x33_24 = true
       ·subst c28
        have H1 : ((basculeref03_lay.f kj24 l1_0).bind fun t293 => ((basculeref03_counted.f t293).bind fun t296 => (if y281.length + t296.length < 140737488355328 then (some (y281 ++ t296)) else (none)))) = some r := by rw [if_pos rfl] at H; exact H
        clear H
        have H := H1
        clear H1
        replace H := Option.bind_eq_some_iff.mp H
        obtain ⟨t293, A290, H⟩ := H
        replace H : ((basculeref03_counted.f t293).bind fun t296 => (if y281.length + t296.length < 140737488355328 then (some (y281 ++ t296)) else (none))) = some r := H
        have A29 := Aside0.mk A290
        clear A290
        replace H := Option.bind_eq_some_iff.mp H
        obtain ⟨t296, A300, H⟩ := H
        replace H : (if y281.length + t296.length < 140737488355328 then (some (y281 ++ t296)) else (none)) = some r := H
        have A30 := Aside0.mk A300
        clear A300
        by_cases c31 : y281.length + t296.length < 140737488355328
        ·rw [if_pos c31] at H
         have LMc31 := Aside0.mk c31
         clear c31
         obtain ⟨y299, hy299⟩ : ∃ y_ : List Int, y_ = (y281 ++ t296) := ⟨_, rfl⟩
         replace H : (some y299) = some r := by first | (rw [hy299]; with_reducible exact H) | (have H2_ := (Option.bind_some _ _).symm.trans H; rw [hy299]; with_reducible exact H2_) | (have H2_ := (Option.bind_some _ _).symm.trans H; with_reducible exact H2_) | with_reducible exact H | (rw [hy299]; exact H) | exact H
         have Ny299 := Aside0.mk hy299
         clear hy299
         obtain rfl := Option.some.inj H
         have hnb32 := NB277_276.out
         have hnc32 := NB276_277.out
         refine cz2_ BK277.out ?_; intro hcz33_0 hcz33_1 hfz33_0 hfz33_1
         go_wp2_with (first | ((with_reducible refine gate_callee (f := 56) rfl ?_); refine goesL_ (some 40) rfl rfl Try.func56 (by kernel_rfl) rfl #[.slice A1_0 l1_0.length c1_0] rfl ar_ ?_; (with_reducible refine (basculeref03_lay.calls kj24 _ _ l1_0 t293 _ ?side1 ?side2 A29.out).mono ?_); (case side1 => exact sc_ (Kd.C_below HR1_0.out HB.out)); (case side2 => exact HC1_0.out); rintro e w34 ⟨v294, rfl, ho0, hb⟩; refine ⟨_, rfl, ?_⟩; have n0_ := Aside0.mk (Kd.R_elder' (kr_ HO_5) (Kd.R_base ho0) hb); have n1_ := Aside0.mk (Kd.R_lower (Kd.R_new' ho0 (Kd.R_lt (kr_ HO_5))) (below_size (bl2_ HB GE276 GE277))); have n2_ := Aside0.mk (blk_below (g := gb276) (bk_ BK276) hb); have n3_ := Aside0.mk (blk_below (g := gb277) (bk_ BK277) hb); have n4_ := Aside0.mk (below_step (bl2_ HB GE276 GE277) hb); clear HO_5; clear BK276; clear BK277; clear HB; have HO_5 := n0_; have HO295 := n1_; have BK276 := n2_; have BK277 := n3_; have HB := n4_; clear n0_ n1_ n2_ n3_ n4_; (try clear hb); (try clear hb2); (try clear hk); (try clear hi); (try clear ho0); obtain ⟨Ao35, co35, eo35⟩ := Kd.R_slice HO295.out; subst eo35) | ((with_reducible refine gate_callee (f := 57) rfl ?_); refine goesL_ (some 41) rfl rfl Try.func57 (by kernel_rfl) rfl #[.slice Ao35 t293.length co35] rfl ar_ ?_; (with_reducible refine (basculeref03_counted.calls _ _ t293 t296 _ ?side1 ?side2 A30.out).mono ?_); (case side1 => exact sc_ (Kd.R_reads' HO295.out).2.2); (case side2 => exact (Kd.R_reads' HO295.out).2.1); rintro e w36 ⟨v297, rfl, ho0, hb⟩; refine ⟨_, rfl, ?_⟩; have n0_ := Aside0.mk (Kd.R_elder' (kr_ HO_5) (Kd.R_base ho0) hb); have n1_ := Aside0.mk (Kd.R_elder' (kr_ HO295) (Kd.R_base ho0) hb); have n2_ := Aside0.mk (Kd.R_lower (Kd.R_new' (Kd.R_new' ho0 (Kd.R_lt (kr_ HO_5))) (Kd.R_lt (kr_ HO295))) (below_size (bl2_ HB GE276 GE277))); have n3_ := Aside0.mk (blk_below (g := gb276) (bk_ BK276) hb); have n4_ := Aside0.mk (blk_below (g := gb277) (bk_ BK277) hb); have n5_ := Aside0.mk (below_step (bl2_ HB GE276 GE277) hb); clear HO_5; clear HO295; clear BK276; clear BK277; clear HB; have HO_5 := n0_; have HO295 := n1_; have HO298 := n2_; have BK276 := n3_; have BK277 := n4_; have HB := n5_; clear n0_ n1_ n2_ n3_ n4_ n5_; (try clear hb); (try clear hb2); (try clear hk); (try clear hi); (try clear ho0); obtain ⟨Ao38, co38, eo38⟩ := Kd.R_slice HO298.out; subst eo38) | ((with_reducible refine gate_builtin (b := .append) (xs := #[.tmp 37, .tmp 41]) rfl ?_); at_builtin; refine Kd.R_append_rows (Kd.int .u8) (w0 := w) w.heap.size rfl (.tmp 37) (.tmp 41) 58 5 (.int .u8 0) 1 rfl Try.underlying58 info5 rfl (by decide) (by omega) v282 y281 t296 _ _ _ (fun k_ => some k_ ≠ (.slice Ao35 t293.length co35 : Value).ownBlock ∧ some k_ ≠ (.slice Ao38 t296.length co38 : Value).ownBlock) (fun _ => False) rfl rfl ?aO ?aR (fun _ _ h => h) (fun _ h => h.elim) ?aF ?aB ?aS ?aL ?_; (case aR => exact sc_ (Kd.R_reads' HO298.out).2.2); (case aB => exact (bl2_ HB GE276 GE277)); (case aF => exact (fun k_ hk => ⟨Kd.fresh' (Kd.R_lt (kr_ HO295)) k_ hk, Kd.fresh' (Kd.R_lt (kr_ HO298)) k_ hk⟩)); (case aO => exact (by (with_reducible repeat (first | apply Kd.R_alloc | apply Kd.R_drewN | apply Kd.R_drew)); exact Kd.R_mono HO_5.out (fun _ hk => ⟨hk.1.2, hk.2⟩))); (case aS => exact (below_size (bl2_ HB GE276 GE277))); (case aL => have := LMc31.out; omega); intro v300 w37 ho hb hg hat; rw [← Ny299.out] at ho; have n0_ := Aside0.mk (blk_grown (g := gb276) (bk_ BK276) hg (Kd.R_ne HO_5.out BK276.out (by decide))); have n1_ := Aside0.mk (blk_grown (g := gb277) (bk_ BK277) hg (Kd.R_ne HO_5.out BK277.out (by decide))); have n2_ := Aside0.mk (Kd.R_after (ok := (fun k_ => some k_ ≠ (.slice Ao38 t296.length co38 : Value).ownBlock)) (by (with_reducible repeat (first | apply Kd.R_alloc | apply Kd.R_drewN | apply Kd.R_drew)); exact Kd.R_mono HO295.out (fun _ hk => ⟨hk.2, hk.1.2⟩)) hg hat); have n3_ := Aside0.mk (Kd.R_after (ok := (fun k_ => some k_ ≠ (.slice Ao35 t293.length co35 : Value).ownBlock)) (by (with_reducible repeat (first | apply Kd.R_alloc | apply Kd.R_drewN | apply Kd.R_drew)); exact Kd.R_mono HO298.out (fun _ hk => ⟨hk.2, hk.1.2⟩)) hg hat); have n4_ := Aside0.mk (hb); have n5_ := Aside0.mk (ho); clear BK276; clear BK277; clear HO295; clear HO298; clear HB; clear HO_5; have BK276 := n0_; have BK277 := n1_; have HO295 := n2_; have HO298 := n3_; have HB := n4_; have HO301 := n5_; clear n0_ n1_ n2_ n3_ n4_ n5_; clear ho hb hg hat))
         go_ret
         exact ⟨_, er_, by (with_reducible repeat (first | apply Kd.R_alloc | apply Kd.R_drewN | apply Kd.R_drew)); exact Kd.R_mono HO301.out (fun _ hk => trivial), bl2_ HB GE276 GE277⟩
        ·rw [if_neg c31] at H
         exact absurd H (by simp)
       ·replace c28 := Bool.eq_false_iff.mpr c28
        subst c28
        have H1 : (if a0_0 = 15 then (basculeref03_AnswerBytes.j2 kj24 y281 (a0_0 == 15) a0_0 a0_1 a0_2 l0_3 a0_4 a0_5 a0_6) else (basculeref03_AnswerBytes.j2 kj24 y281 (a0_0 == 16) a0_0 a0_1 a0_2 l0_3 a0_4 a0_5 a0_6)) = some r := by rw [if_neg (show ¬ (false = true) by decide)] at H; exact H
        clear H
        have H := H1
        clear H1
        have HC39 := Aside0.mk H
        clear H
        go_upto_if 44 with (fail)
        go_cut [44] (fun v44 wc => ∃ (kq : Nat) (x44_38 : Bool), v44 = .bool x44_38 ∧ Aside0 (basculeref03_AnswerBytes.j2 kq y281 x44_38 a0_0 a0_1 a0_2 l0_3 a0_4 a0_5 a0_6 = some r) ∧ Aside0 (kq ≤ kj24) ∧ Aside0 (Kd.R (Kd.int .u8) 5 wc w.heap.size (fun _ => True) v282 y281) ∧ Aside0 (wc.heap[gb276]? = some (.cells #[.int .i64 a0_0, .int .i64 a0_1, .int .i64 a0_2, (.slice A0_3 l0_3.length c0_3), .int .i64 a0_4, .int .i64 a0_5, .int .i64 a0_6] 24 (0, 0))) ∧ Aside0 (wc.heap[gb277]? = some (.cells #[(.slice A1_0 l1_0.length c1_0), .int .i64 a1_1] 30 (0, 0))) ∧ Aside0 (Below w.heap.size w wc))
        case first =>
         have H := HC39.out
         clear HC39
         by_cases c40 : a0_0 = 15
         ·rw [if_pos c40] at H
          have c40b0 : (a0_0 == 15) = true := beq_iff_eq.mpr c40
          have c40b1 : (a0_0 != 15) = false := bne_eq_false_iff_eq.mpr c40
          clear c40
          (first | rw [c40b0] | (simp only [i64_w, i32_w]; rw [c40b0]) | skip)
          have H' := Aside0.mk H
          clear H
          go_wp2
          go_meet
          case rel => exact ⟨_, ((a0_0 == 15)), (by first | rfl | (simp; done) | (simp [*]; done)), H', ⟨by have := HJ3.out; have := HJ24.out; first | omega | exact Nat.le_refl _⟩, ⟨kr_ HO_5⟩, ⟨bk_ BK276⟩, ⟨bk_ BK277⟩, ⟨bl2_ HB GE276 GE277⟩⟩
         ·rw [if_neg c40] at H
          have c40b0 : (a0_0 == 15) = false := beq_eq_false_iff_ne.mpr c40
          have c40b1 : (a0_0 != 15) = true := bne_iff_ne.mpr c40
          (first | rw [c40b0] | (simp only [i64_w, i32_w]; rw [c40b0]) | skip)
          have H' := Aside0.mk H
          clear H
          go_wp2
          go_meet
          case rel => exact ⟨_, ((a0_0 == 16)), (by first | rfl | (simp; done) | (simp [*]; done)), H', ⟨by have := HJ3.out; have := HJ24.out; first | omega | exact Nat.le_refl _⟩, ⟨kr_ HO_5⟩, ⟨bk_ BK276⟩, ⟨bk_ BK277⟩, ⟨bl2_ HB GE276 GE277⟩⟩
        case rest =>
         clear HC39
         try clear c1
         try clear c2
         try clear p2
         try clear c3
         try clear c3b0
         try clear c3b1
         try clear c4
         try clear c5
         try clear p6
         try clear c7
         try clear c13
         try clear c13b0
         try clear c13b1
         try clear c14
         try clear c17
         try clear c18
         try clear c26
         try clear c26b0
         try clear c26b1
         try clear c27
         try clear c27b0
         try clear c27b1
         try clear c28
         try clear c31
         try clear c32
         try clear c38
         try clear c40
         try clear c40b0
         try clear c40b1
         try clear hcz12_0 hcz12_1 hcz12_2 hcz12_3 hcz12_4 hcz12_5 hcz12_6
         try clear hcz19_0 hcz19_1
         try clear hcz33_0 hcz33_1
         try clear hcz8_0 hcz8_1
         try clear hcz9_0 hcz9_1 hcz9_2 hcz9_3 hcz9_4 hcz9_5 hcz9_6
         try clear hfz12_0 hfz12_1 hfz12_2 hfz12_3 hfz12_4 hfz12_5 hfz12_6
         try clear hfz19_0 hfz19_1
         try clear hfz33_0 hfz33_1
         try clear hfz8_0 hfz8_1
         try clear hfz9_0 hfz9_1 hfz9_2 hfz9_3 hfz9_4 hfz9_5 hfz9_6
         try clear p2
         try clear p6
         obtain ⟨kq, x44_38, rfl, HA, HJ38, HO_5, BK276, BK277, HB⟩ := hcut
         cases kq with
         | zero => exact absurd HA.out (by simp [basculeref03_AnswerBytes.j2])
         | succ kj38 =>
          have H := HA.out
          clear HA
          simp only [basculeref03_AnswerBytes.j2] at H
          by_cases c41 : x44_38 = true
          ·subst c41
           have H1 : ((basculeref03_lay.f kj38 (([a0_1, a0_2] : List Int))).bind fun t305 => (if y281.length + t305.length < 140737488355328 then (some (y281 ++ t305)) else (none))) = some r := by rw [if_pos rfl] at H; exact H
           clear H
           have H := H1
           clear H1
           obtain ⟨y302, hy302⟩ : ∃ y_ : List Int, y_ = (([a0_1, a0_2] : List Int)) := ⟨_, rfl⟩
           replace H : ((basculeref03_lay.f kj38 y302).bind fun t305 => (if y281.length + t305.length < 140737488355328 then (some (y281 ++ t305)) else (none))) = some r := by first | (rw [hy302]; with_reducible exact H) | (have H2_ := (Option.bind_some _ _).symm.trans H; rw [hy302]; with_reducible exact H2_) | (have H2_ := (Option.bind_some _ _).symm.trans H; with_reducible exact H2_) | with_reducible exact H | (rw [hy302]; exact H) | exact H
           have Ny302 := Aside0.mk hy302
           clear hy302
           replace H := Option.bind_eq_some_iff.mp H
           obtain ⟨t305, A420, H⟩ := H
           replace H : (if y281.length + t305.length < 140737488355328 then (some (y281 ++ t305)) else (none)) = some r := H
           have A42 := Aside0.mk A420
           clear A420
           by_cases c43 : y281.length + t305.length < 140737488355328
           ·rw [if_pos c43] at H
            have LMc43 := Aside0.mk c43
            clear c43
            obtain ⟨y308, hy308⟩ : ∃ y_ : List Int, y_ = (y281 ++ t305) := ⟨_, rfl⟩
            replace H : (some y308) = some r := by first | (rw [hy308]; with_reducible exact H) | (have H2_ := (Option.bind_some _ _).symm.trans H; rw [hy308]; with_reducible exact H2_) | (have H2_ := (Option.bind_some _ _).symm.trans H; with_reducible exact H2_) | with_reducible exact H | (rw [hy308]; exact H) | exact H
            have Ny308 := Aside0.mk hy308
            clear hy308
            obtain rfl := Option.some.inj H
            have hnb44 := NB276_277.out
            have hnc44 := NB277_276.out
            refine cz7_ BK276.out ?_; intro hcz45_0 hcz45_1 hcz45_2 hcz45_3 hcz45_4 hcz45_5 hcz45_6 hfz45_0 hfz45_1 hfz45_2 hfz45_3 hfz45_4 hfz45_5 hfz45_6
            go_wp2_with (first | ((with_reducible refine gate_dst (N := 52) rfl ?_); refine Kd.R_lit (Kd.int .i64) _ 3 ?hg (N := 52) ?hd (xs := ([a0_1, a0_2] : List Int)) (inner := [.int .i64 a0_1, .int .i64 a0_2]) (ok := fun _ => True) (okp := fun _ => True) ?hr ?hp (fun _ hk => hk) trivial (Below.refl _ _) (Nat.le_refl _) (by simp) ?_; (case hd => rfl); (case hg => rfl); (case hr => first | (go_simp; done) | (go_simp; rfl)); (case hp => exact (Reps.one (show Kd.M (Kd.int .i64) _ _ _ a0_1 [.int .i64 a0_1] from rfl) (Reps.one (show Kd.M (Kd.int .i64) _ _ _ a0_2 [.int .i64 a0_2] from rfl) (Reps.none _ _)))); intro v303 w46 ho47 hb hg_ hnew_; clear hg_ hnew_; (first | rw [← Ny302.out] at ho47 | (simp only [Int.reduceToNat] at ho47; rw [← Ny302.out] at ho47)); have n0_ := Aside0.mk (Kd.R_below (kr_ HO_5) hb); have n1_ := Aside0.mk (Kd.R_lower ho47 (below_size (bl2_ HB GE276 GE277))); have n2_ := Aside0.mk (blk_below (g := gb276) (bk_ BK276) hb); have n3_ := Aside0.mk (blk_below (g := gb277) (bk_ BK277) hb); have n4_ := Aside0.mk (below_step (bl2_ HB GE276 GE277) hb); clear HO_5; clear BK276; clear BK277; clear HB; have HO_5 := n0_; have HO304 := n1_; have BK276 := n2_; have BK277 := n3_; have HB := n4_; clear n0_ n1_ n2_ n3_ n4_; clear hb ho47; obtain ⟨Ao48, co48, eo48⟩ := Kd.R_slice HO304.out; subst eo48) | ((with_reducible refine gate_callee (f := 56) rfl ?_); refine goesL_ (some 53) rfl rfl Try.func56 (by kernel_rfl) rfl #[.slice Ao48 y302.length co48] rfl ar_ ?_; (with_reducible refine (basculeref03_lay.calls kj38 _ _ y302 t305 _ ?side1 ?side2 A42.out).mono ?_); (case side1 => exact sc_ (Kd.R_reads' HO304.out).2.2); (case side2 => exact (Kd.R_reads' HO304.out).2.1); rintro e w49 ⟨v306, rfl, ho0, hb⟩; refine ⟨_, rfl, ?_⟩; have n0_ := Aside0.mk (Kd.R_elder' (kr_ HO_5) (Kd.R_base ho0) hb); have n1_ := Aside0.mk (Kd.R_below (kr_ HO304) hb); have n2_ := Aside0.mk (Kd.R_lower (Kd.R_new' ho0 (Kd.R_lt (kr_ HO_5))) (below_size (bl2_ HB GE276 GE277))); have n3_ := Aside0.mk (blk_below (g := gb276) (bk_ BK276) hb); have n4_ := Aside0.mk (blk_below (g := gb277) (bk_ BK277) hb); have n5_ := Aside0.mk (below_step (bl2_ HB GE276 GE277) hb); clear HO_5; clear HO304; clear BK276; clear BK277; clear HB; have HO_5 := n0_; have HO304 := n1_; have HO307 := n2_; have BK276 := n3_; have BK277 := n4_; have HB := n5_; clear n0_ n1_ n2_ n3_ n4_ n5_; (try clear hb); (try clear hb2); (try clear hk); (try clear hi); (try clear ho0); obtain ⟨Ao51, co51, eo51⟩ := Kd.R_slice HO307.out; subst eo51) | ((with_reducible refine gate_builtin (b := .append) (xs := #[.tmp 47, .tmp 53]) rfl ?_); at_builtin; refine Kd.R_append_rows (Kd.int .u8) (w0 := w) w.heap.size rfl (.tmp 47) (.tmp 53) 58 5 (.int .u8 0) 1 rfl Try.underlying58 info5 rfl (by decide) (by omega) v282 y281 t305 _ _ _ (fun k_ => some k_ ≠ (.slice Ao51 t305.length co51 : Value).ownBlock) (fun _ => False) rfl rfl ?aO ?aR (fun _ _ h => h) (fun _ h => h.elim) ?aF ?aB ?aS ?aL ?_; (case aR => exact sc_ (Kd.R_reads' HO307.out).2.2); (case aB => exact (bl2_ HB GE276 GE277)); (case aF => exact (fun k_ hk => Kd.fresh' (Kd.R_lt (kr_ HO307)) k_ hk)); (case aO => exact (by (with_reducible repeat (first | apply Kd.R_alloc | apply Kd.R_drewN | apply Kd.R_drew)); exact Kd.R_mono HO_5.out (fun _ hk => hk.2))); (case aS => exact (below_size (bl2_ HB GE276 GE277))); (case aL => have := LMc43.out; omega); intro v309 w50 ho hb hg hat; rw [← Ny308.out] at ho; have n0_ := Aside0.mk (blk_grown (g := gb276) (bk_ BK276) hg (Kd.R_ne HO_5.out BK276.out (by decide))); have n1_ := Aside0.mk (blk_grown (g := gb277) (bk_ BK277) hg (Kd.R_ne HO_5.out BK277.out (by decide))); have n2_ := Aside0.mk (Kd.R_over' (kr_ HO304) (Kd.R_typed (kr_ HO_5)) (by decide) hg); have n3_ := Aside0.mk (Kd.R_after (ok := (fun _ => True)) (kr_ HO307) hg hat); have n4_ := Aside0.mk (hb); have n5_ := Aside0.mk (ho); clear BK276; clear BK277; clear HO304; clear HO307; clear HB; clear HO_5; have BK276 := n0_; have BK277 := n1_; have HO304 := n2_; have HO307 := n3_; have HB := n4_; have HO310 := n5_; clear n0_ n1_ n2_ n3_ n4_ n5_; clear ho hb hg hat))
            go_ret
            exact ⟨_, er_, by (with_reducible repeat (first | apply Kd.R_alloc | apply Kd.R_drewN | apply Kd.R_drew)); exact Kd.R_mono HO310.out (fun _ hk => trivial), bl2_ HB GE276 GE277⟩
           ·rw [if_neg c43] at H
            exact absurd H (by simp)
          ·replace c41 := Bool.eq_false_iff.mpr c41
           subst c41
           have H1 : ((basculeref03_Bytes.f kj38 a0_0 a0_1 a0_2 l0_3 a0_4 a0_5 a0_6).bind fun t311 => (some t311)) = some r := by rw [if_neg (show ¬ (false = true) by decide)] at H; exact H
           clear H
           have H := H1
           clear H1
           replace H := Option.bind_eq_some_iff.mp H
           obtain ⟨t311, A520, H⟩ := H
           replace H : (some t311) = some r := H
           have A52 := Aside0.mk A520
           clear A520
           obtain rfl := Option.some.inj H
           have hnb53 := NB276_277.out
           have hnc53 := NB277_276.out
           refine cz7_ BK276.out ?_; intro hcz54_0 hcz54_1 hcz54_2 hcz54_3 hcz54_4 hcz54_5 hcz54_6 hfz54_0 hfz54_1 hfz54_2 hfz54_3 hfz54_4 hfz54_5 hfz54_6
           go_wp2_with (first | ((with_reducible refine gate_callee (f := 33) rfl ?_); refine goesL_ (some 57) rfl rfl Try.func33 (by kernel_rfl) rfl #[.agg #[.int .i64 a0_0, .int .i64 a0_1, .int .i64 a0_2, .slice A0_3 l0_3.length c0_3, .int .i64 a0_4, .int .i64 a0_5, .int .i64 a0_6]] rfl ar_ ?_; (with_reducible refine (basculeref03_Bytes.calls kj38 a0_0 a0_1 a0_2 _ _ l0_3 a0_4 a0_5 a0_6 t311 _ ?side1 ?side2 A52.out).mono ?_); (case side1 => exact sc_ (Kd.C_below HR0_3.out HB.out)); (case side2 => exact HC0_3.out); rintro e w55 ⟨v312, rfl, ho0, hb⟩; refine ⟨_, rfl, ?_⟩; have n0_ := Aside0.mk (Kd.R_elder' (kr_ HO_5) (Kd.R_base ho0) hb); have n1_ := Aside0.mk (Kd.R_lower (Kd.R_new' ho0 (Kd.R_lt (kr_ HO_5))) (below_size (bl2_ HB GE276 GE277))); have n2_ := Aside0.mk (blk_below (g := gb276) (bk_ BK276) hb); have n3_ := Aside0.mk (blk_below (g := gb277) (bk_ BK277) hb); have n4_ := Aside0.mk (below_step (bl2_ HB GE276 GE277) hb); clear HO_5; clear BK276; clear BK277; clear HB; have HO_5 := n0_; have HO313 := n1_; have BK276 := n2_; have BK277 := n3_; have HB := n4_; clear n0_ n1_ n2_ n3_ n4_; (try clear hb); (try clear hb2); (try clear hk); (try clear hi); (try clear ho0)))
           go_ret
           exact ⟨_, er_, by (with_reducible repeat (first | apply Kd.R_alloc | apply Kd.R_drewN | apply Kd.R_drew)); exact Kd.R_mono HO313.out (fun _ hk => trivial), bl2_ HB GE276 GE277⟩
 ·rw [if_neg c3] at H
  have c3b0 : (a1_1 == 0) = false := beq_eq_false_iff_ne.mpr c3
  have c3b1 : (a1_1 != 0) = true := bne_iff_ne.mpr c3
  obtain ⟨y278, hy278⟩ : ∃ y_ : List Int, y_ = (([(wrap64 (a0_0 + 128)) % 256, (a1_1) % 256] : List Int)) := ⟨_, rfl⟩
  replace H : (some y278) = some r := by first | (rw [hy278]; with_reducible exact H) | (have H2_ := (Option.bind_some _ _).symm.trans H; rw [hy278]; with_reducible exact H2_) | (have H2_ := (Option.bind_some _ _).symm.trans H; with_reducible exact H2_) | with_reducible exact H | (rw [hy278]; exact H) | exact H
  have Ny278 := Aside0.mk hy278
  clear hy278
  obtain rfl := Option.some.inj H
  go_enter Try.func38, Try.ntmps38
  go_wp2_with (first | ((with_reducible refine gate_dst (N := 2) rfl ?_); refine bx_ (N := 2) (cs := #[.int .i64 a0_0, .int .i64 a0_1, .int .i64 a0_2, .slice A0_3 l0_3.length c0_3, .int .i64 a0_4, .int .i64 a0_5, .int .i64 a0_6]) (t := 24) ?_; intro gb276 hg w56 hbox hb; have n0_ := Aside0.mk (below_step (bl0_ HB) hb); have n1_ := Aside0.mk (hbox); have n2_ := Aside0.mk ((by rw [hg]; exact (below_size (bl0_ HB)) : w.heap.size ≤ gb276)); have n3_ := Aside0.mk ((by rw [hg]; exact (below_size (bl0_ HB)) : w.heap.size ≤ gb276)); clear HB; have HB := n0_; have BK276 := n1_; have GW276 := n2_; have GE276 := n3_; clear n0_ n1_ n2_ n3_; clear hb hbox hg) | ((with_reducible refine gate_dst (N := 3) rfl ?_); refine bx_ (N := 3) (cs := #[.slice A1_0 l1_0.length c1_0, .int .i64 a1_1]) (t := 30) ?_; intro gb277 hg w57 hbox hb; have n0_ := Aside0.mk (blk_below (g := gb276) (bk_ BK276) hb); have n1_ := Aside0.mk (below_step (bl1_ HB GE276) hb); have n2_ := Aside0.mk (hbox); have n3_ := Aside0.mk ((by rw [hg]; exact (below_size (bl1_ HB GE276)) : w.heap.size ≤ gb277)); have n4_ := Aside0.mk ((by rw [hg]; exact (below_size (bl1_ HB GE276)) : w.heap.size ≤ gb277)); have n5_ := Aside0.mk ((by rw [hg]; exact Nat.ne_of_lt (blk_lt (g := gb276) (bk_ BK276)) : gb276 ≠ gb277)); have n6_ := Aside0.mk ((by rw [hg]; exact Nat.ne_of_gt (blk_lt (g := gb276) (bk_ BK276)) : gb277 ≠ gb276)); clear BK276; clear HB; have BK276 := n0_; have HB := n1_; have BK277 := n2_; have GW277 := n3_; have GE277 := n4_; have NB276_277 := n5_; have NB277_276 := n6_; clear n0_ n1_ n2_ n3_ n4_ n5_ n6_; clear hb hbox hg; have hnb58 := NB277_276.out; have hnc58 := NB276_277.out; refine cz2_ BK277.out ?_; intro hcz59_0 hcz59_1 hfz59_0 hfz59_1; refine cz7_ BK276.out ?_; intro hcz60_0 hcz60_1 hcz60_2 hcz60_3 hcz60_4 hcz60_5 hcz60_6 hfz60_0 hfz60_1 hfz60_2 hfz60_3 hfz60_4 hfz60_5 hfz60_6) | ((with_reducible refine gate_dst (N := 16) rfl ?_); refine Kd.R_lit (Kd.int .u8) _ 5 ?hg (N := 16) ?hd (xs := ([(wrap64 (a0_0 + 128)) % 256, (a1_1) % 256] : List Int)) (inner := [.int .u8 ((wrap64 (a0_0 + 128)) % 256), .int .u8 ((a1_1) % 256)]) (ok := fun _ => True) (okp := fun _ => True) ?hr ?hp (fun _ hk => hk) trivial (Below.refl _ _) (Nat.le_refl _) (by simp) ?_; (case hd => rfl); (case hg => rfl); (case hr => first | (go_simp; done) | (go_simp; rfl)); (case hp => exact (Reps.one (show Kd.M (Kd.int .u8) _ _ _ ((wrap64 (a0_0 + 128)) % 256) [.int .u8 ((wrap64 (a0_0 + 128)) % 256)] from rfl) (Reps.one (show Kd.M (Kd.int .u8) _ _ _ ((a1_1) % 256) [.int .u8 ((a1_1) % 256)] from rfl) (Reps.none _ _)))); intro v279 w61 ho62 hb hg_ hnew_; clear hg_ hnew_; (first | rw [← Ny278.out] at ho62 | (simp only [Int.reduceToNat] at ho62; rw [← Ny278.out] at ho62)); have n0_ := Aside0.mk (Kd.R_lower ho62 (below_size (bl2_ HB GE276 GE277))); have n1_ := Aside0.mk (blk_below (g := gb276) (bk_ BK276) hb); have n2_ := Aside0.mk (blk_below (g := gb277) (bk_ BK277) hb); have n3_ := Aside0.mk (below_step (bl2_ HB GE276 GE277) hb); clear BK276; clear BK277; clear HB; have HO280 := n0_; have BK276 := n1_; have BK277 := n2_; have HB := n3_; clear n0_ n1_ n2_ n3_; clear hb ho62))
  go_ret
  exact ⟨_, er_, kr_ HO280, bl2_ HB GE276 GE277⟩
end Go.Proofs.Ytocicifgglkaeaa.PR
end

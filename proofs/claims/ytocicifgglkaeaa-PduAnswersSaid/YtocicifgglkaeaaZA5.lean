/- The words, contracts and walks that this claim leans on, put together by a program of this session (part 5). -/
import Derived.Test.YtocicifgglkaeaaZA4
section
namespace Go.Proofs.Ytocicifgglkaeaa.Chk
open Go.RowKit Go.Proofs.YtocicifgglkaeaaW.PrintWords Go.Proofs.YtocicifgglkaeaaW.PrintLast Go.Proofs.YtocicifgglkaeaaW.PrintMore Go.Proofs.Ytocicifgglkaeaa.Core Go.Proofs.Ytocicifgglkaeaa.Wk
set_option linter.unusedVariables false
set_option linter.unusedSimpArgs false
set_option maxHeartbeats 4000000 in
set_option maxRecDepth 100000 in
theorem may_1 (a c : Int) (A : Option Addr) (cc : Nat) (v : List Int) (t n o : Int) (w : World) (hV : Kd.C (Kd.int .i64) w A v.length v) : Calls Try.prog 20 #[.agg #[.int .i64 1, .int .i64 a, .int .i64 c, .slice A v.length cc, .int .i64 t, .int .i64 n, .int .i64 o]] w fun e w' => e = .returned (.bool (chkB 1 a c v t n o)) ∧ Below w.heap.size w w' := by
 have HV := Aside0.mk hV; clear hV
 by_cases hz0 : (n == 0) = true
 ·have z0 : (n == 0) = true := hz0; clear hz0
  by_cases hz1 : (o == 0) = true
  ·have z1 : (o == 0) = true := hz1; clear hz1
   by_cases hz2 : ((v.length : Int) == 0) = true
   ·have z2 : ((v.length : Int) == 0) = true := hz2; clear hz2
    by_cases hz3 : (t == 0) = true
    ·have z3 : (t == 0) = true := hz3; clear hz3
     by_cases hz4 : decide (1 ≤ c) = true
     ·have z4 : decide (1 ≤ c) = true := hz4; clear hz4; have pz4 := of_decide_eq_true z4
      by_cases hz5 : decide (c ≤ 2000) = true
      ·have z5 : decide (c ≤ 2000) = true := hz5; clear hz5; have pz5 := of_decide_eq_true z5
       by_cases hz6 : spB a c = true
       ·have z6 : spB a c = true := hz6; clear hz6
        have HR : Aside0 (chkB 1 a c v t n o = true) := ⟨by simp_all [chkB, wB] <;> (intros; omega)⟩
        rw [HR.out]
        go_enter Try.func20, Try.ntmps20
        go_wp2_with (first | ((with_reducible refine gate_dst (N := 1) rfl ?_); refine bx_ (N := 1) (cs := #[.int .i64 1, .int .i64 a, .int .i64 c, .slice A v.length cc, .int .i64 t, .int .i64 n, .int .i64 o]) (t := 24) ?_; intro g hg w1 hb HB; have XB := Aside0.mk HB; have BK := Aside0.mk hb; obtain ⟨k0, k1, k2, k3, k4, k5, k6⟩ := cells7 hb; clear hg hb HB) | (go_at_call 45; refine (is_c _ _).mono ?_; rintro e w' ⟨rfl, rfl⟩) | (go_at_call 43; refine (refspan_c _ _ _ (by omega) (by omega)).mono ?_; rintro e w' ⟨rfl, rfl⟩))
        go_ret
        exact ⟨rfl, XB.out⟩
       ·have z6 : spB a c = false := by simpa using hz6
        clear hz6
        have HR : Aside0 (chkB 1 a c v t n o = false) := ⟨by simp_all [chkB, wB] <;> (intros; omega)⟩
        rw [HR.out]
        go_enter Try.func20, Try.ntmps20
        go_wp2_with (first | ((with_reducible refine gate_dst (N := 1) rfl ?_); refine bx_ (N := 1) (cs := #[.int .i64 1, .int .i64 a, .int .i64 c, .slice A v.length cc, .int .i64 t, .int .i64 n, .int .i64 o]) (t := 24) ?_; intro g hg w1 hb HB; have XB := Aside0.mk HB; have BK := Aside0.mk hb; obtain ⟨k0, k1, k2, k3, k4, k5, k6⟩ := cells7 hb; clear hg hb HB) | (go_at_call 45; refine (is_c _ _).mono ?_; rintro e w' ⟨rfl, rfl⟩) | (go_at_call 43; refine (refspan_c _ _ _ (by omega) (by omega)).mono ?_; rintro e w' ⟨rfl, rfl⟩))
        go_ret
        exact ⟨rfl, XB.out⟩
      ·have z5 : decide (c ≤ 2000) = false := by simpa using hz5
       clear hz5
       have HR : Aside0 (chkB 1 a c v t n o = false) := ⟨by simp_all [chkB, wB] <;> (intros; omega)⟩
       rw [HR.out]
       go_enter Try.func20, Try.ntmps20
       go_wp2_with (first | ((with_reducible refine gate_dst (N := 1) rfl ?_); refine bx_ (N := 1) (cs := #[.int .i64 1, .int .i64 a, .int .i64 c, .slice A v.length cc, .int .i64 t, .int .i64 n, .int .i64 o]) (t := 24) ?_; intro g hg w1 hb HB; have XB := Aside0.mk HB; have BK := Aside0.mk hb; obtain ⟨k0, k1, k2, k3, k4, k5, k6⟩ := cells7 hb; clear hg hb HB) | (go_at_call 45; refine (is_c _ _).mono ?_; rintro e w' ⟨rfl, rfl⟩) | (go_at_call 43; refine (refspan_c _ _ _ (by omega) (by omega)).mono ?_; rintro e w' ⟨rfl, rfl⟩))
       go_ret
       exact ⟨rfl, XB.out⟩
     ·have z4 : decide (1 ≤ c) = false := by simpa using hz4
      clear hz4
      have HR : Aside0 (chkB 1 a c v t n o = false) := ⟨by simp_all [chkB, wB] <;> (intros; omega)⟩
      rw [HR.out]
      go_enter Try.func20, Try.ntmps20
      go_wp2_with (first | ((with_reducible refine gate_dst (N := 1) rfl ?_); refine bx_ (N := 1) (cs := #[.int .i64 1, .int .i64 a, .int .i64 c, .slice A v.length cc, .int .i64 t, .int .i64 n, .int .i64 o]) (t := 24) ?_; intro g hg w1 hb HB; have XB := Aside0.mk HB; have BK := Aside0.mk hb; obtain ⟨k0, k1, k2, k3, k4, k5, k6⟩ := cells7 hb; clear hg hb HB) | (go_at_call 45; refine (is_c _ _).mono ?_; rintro e w' ⟨rfl, rfl⟩) | (go_at_call 43; refine (refspan_c _ _ _ (by omega) (by omega)).mono ?_; rintro e w' ⟨rfl, rfl⟩))
      go_ret
      exact ⟨rfl, XB.out⟩
    ·have z3 : (t == 0) = false := by simpa using hz3
     clear hz3
     have HR : Aside0 (chkB 1 a c v t n o = false) := ⟨by simp_all [chkB, wB] <;> (intros; omega)⟩
     rw [HR.out]
     go_enter Try.func20, Try.ntmps20
     go_wp2_with (first | ((with_reducible refine gate_dst (N := 1) rfl ?_); refine bx_ (N := 1) (cs := #[.int .i64 1, .int .i64 a, .int .i64 c, .slice A v.length cc, .int .i64 t, .int .i64 n, .int .i64 o]) (t := 24) ?_; intro g hg w1 hb HB; have XB := Aside0.mk HB; have BK := Aside0.mk hb; obtain ⟨k0, k1, k2, k3, k4, k5, k6⟩ := cells7 hb; clear hg hb HB) | (go_at_call 45; refine (is_c _ _).mono ?_; rintro e w' ⟨rfl, rfl⟩) | (go_at_call 43; refine (refspan_c _ _ _ (by omega) (by omega)).mono ?_; rintro e w' ⟨rfl, rfl⟩))
     go_ret
     exact ⟨rfl, XB.out⟩
   ·have z2 : ((v.length : Int) == 0) = false := by simpa using hz2
    clear hz2
    have HR : Aside0 (chkB 1 a c v t n o = false) := ⟨by simp_all [chkB, wB] <;> (intros; omega)⟩
    rw [HR.out]
    go_enter Try.func20, Try.ntmps20
    go_wp2_with (first | ((with_reducible refine gate_dst (N := 1) rfl ?_); refine bx_ (N := 1) (cs := #[.int .i64 1, .int .i64 a, .int .i64 c, .slice A v.length cc, .int .i64 t, .int .i64 n, .int .i64 o]) (t := 24) ?_; intro g hg w1 hb HB; have XB := Aside0.mk HB; have BK := Aside0.mk hb; obtain ⟨k0, k1, k2, k3, k4, k5, k6⟩ := cells7 hb; clear hg hb HB) | (go_at_call 45; refine (is_c _ _).mono ?_; rintro e w' ⟨rfl, rfl⟩) | (go_at_call 43; refine (refspan_c _ _ _ (by omega) (by omega)).mono ?_; rintro e w' ⟨rfl, rfl⟩))
    go_ret
    exact ⟨rfl, XB.out⟩
  ·have z1 : (o == 0) = false := by simpa using hz1
   clear hz1
   by_cases hz2 : ((v.length : Int) == 0) = true
   ·have z2 : ((v.length : Int) == 0) = true := hz2; clear hz2
    have HR : Aside0 (chkB 1 a c v t n o = false) := ⟨by simp_all [chkB, wB] <;> (intros; omega)⟩
    rw [HR.out]
    go_enter Try.func20, Try.ntmps20
    go_wp2_with (first | ((with_reducible refine gate_dst (N := 1) rfl ?_); refine bx_ (N := 1) (cs := #[.int .i64 1, .int .i64 a, .int .i64 c, .slice A v.length cc, .int .i64 t, .int .i64 n, .int .i64 o]) (t := 24) ?_; intro g hg w1 hb HB; have XB := Aside0.mk HB; have BK := Aside0.mk hb; obtain ⟨k0, k1, k2, k3, k4, k5, k6⟩ := cells7 hb; clear hg hb HB) | (go_at_call 45; refine (is_c _ _).mono ?_; rintro e w' ⟨rfl, rfl⟩) | (go_at_call 43; refine (refspan_c _ _ _ (by omega) (by omega)).mono ?_; rintro e w' ⟨rfl, rfl⟩))
    go_ret
    exact ⟨rfl, XB.out⟩
   ·have z2 : ((v.length : Int) == 0) = false := by simpa using hz2
    clear hz2
    have HR : Aside0 (chkB 1 a c v t n o = false) := ⟨by simp_all [chkB, wB] <;> (intros; omega)⟩
    rw [HR.out]
    go_enter Try.func20, Try.ntmps20
    go_wp2_with (first | ((with_reducible refine gate_dst (N := 1) rfl ?_); refine bx_ (N := 1) (cs := #[.int .i64 1, .int .i64 a, .int .i64 c, .slice A v.length cc, .int .i64 t, .int .i64 n, .int .i64 o]) (t := 24) ?_; intro g hg w1 hb HB; have XB := Aside0.mk HB; have BK := Aside0.mk hb; obtain ⟨k0, k1, k2, k3, k4, k5, k6⟩ := cells7 hb; clear hg hb HB) | (go_at_call 45; refine (is_c _ _).mono ?_; rintro e w' ⟨rfl, rfl⟩) | (go_at_call 43; refine (refspan_c _ _ _ (by omega) (by omega)).mono ?_; rintro e w' ⟨rfl, rfl⟩))
    go_ret
    exact ⟨rfl, XB.out⟩
 ·have z0 : (n == 0) = false := by simpa using hz0
  clear hz0
  by_cases hz1 : ((v.length : Int) == 0) = true
  ·have z1 : ((v.length : Int) == 0) = true := hz1; clear hz1
   have HR : Aside0 (chkB 1 a c v t n o = false) := ⟨by simp_all [chkB, wB] <;> (intros; omega)⟩
   rw [HR.out]
   go_enter Try.func20, Try.ntmps20
   go_wp2_with (first | ((with_reducible refine gate_dst (N := 1) rfl ?_); refine bx_ (N := 1) (cs := #[.int .i64 1, .int .i64 a, .int .i64 c, .slice A v.length cc, .int .i64 t, .int .i64 n, .int .i64 o]) (t := 24) ?_; intro g hg w1 hb HB; have XB := Aside0.mk HB; have BK := Aside0.mk hb; obtain ⟨k0, k1, k2, k3, k4, k5, k6⟩ := cells7 hb; clear hg hb HB) | (go_at_call 45; refine (is_c _ _).mono ?_; rintro e w' ⟨rfl, rfl⟩) | (go_at_call 43; refine (refspan_c _ _ _ (by omega) (by omega)).mono ?_; rintro e w' ⟨rfl, rfl⟩))
   go_ret
   exact ⟨rfl, XB.out⟩
  ·have z1 : ((v.length : Int) == 0) = false := by simpa using hz1
   clear hz1
   have HR : Aside0 (chkB 1 a c v t n o = false) := ⟨by simp_all [chkB, wB] <;> (intros; omega)⟩
   rw [HR.out]
   go_enter Try.func20, Try.ntmps20
   go_wp2_with (first | ((with_reducible refine gate_dst (N := 1) rfl ?_); refine bx_ (N := 1) (cs := #[.int .i64 1, .int .i64 a, .int .i64 c, .slice A v.length cc, .int .i64 t, .int .i64 n, .int .i64 o]) (t := 24) ?_; intro g hg w1 hb HB; have XB := Aside0.mk HB; have BK := Aside0.mk hb; obtain ⟨k0, k1, k2, k3, k4, k5, k6⟩ := cells7 hb; clear hg hb HB) | (go_at_call 45; refine (is_c _ _).mono ?_; rintro e w' ⟨rfl, rfl⟩) | (go_at_call 43; refine (refspan_c _ _ _ (by omega) (by omega)).mono ?_; rintro e w' ⟨rfl, rfl⟩))
   go_ret
   exact ⟨rfl, XB.out⟩
set_option maxHeartbeats 4000000 in
set_option maxRecDepth 100000 in
theorem may_2 (a c : Int) (A : Option Addr) (cc : Nat) (v : List Int) (t n o : Int) (w : World) (hV : Kd.C (Kd.int .i64) w A v.length v) : Calls Try.prog 20 #[.agg #[.int .i64 2, .int .i64 a, .int .i64 c, .slice A v.length cc, .int .i64 t, .int .i64 n, .int .i64 o]] w fun e w' => e = .returned (.bool (chkB 2 a c v t n o)) ∧ Below w.heap.size w w' := by
 have HV := Aside0.mk hV; clear hV
 by_cases hz0 : (n == 0) = true
 ·have z0 : (n == 0) = true := hz0; clear hz0
  by_cases hz1 : (o == 0) = true
  ·have z1 : (o == 0) = true := hz1; clear hz1
   by_cases hz2 : ((v.length : Int) == 0) = true
   ·have z2 : ((v.length : Int) == 0) = true := hz2; clear hz2
    by_cases hz3 : (t == 0) = true
    ·have z3 : (t == 0) = true := hz3; clear hz3
     by_cases hz4 : decide (1 ≤ c) = true
     ·have z4 : decide (1 ≤ c) = true := hz4; clear hz4; have pz4 := of_decide_eq_true z4
      by_cases hz5 : decide (c ≤ 2000) = true
      ·have z5 : decide (c ≤ 2000) = true := hz5; clear hz5; have pz5 := of_decide_eq_true z5
       by_cases hz6 : spB a c = true
       ·have z6 : spB a c = true := hz6; clear hz6
        have HR : Aside0 (chkB 2 a c v t n o = true) := ⟨by simp_all [chkB, wB] <;> (intros; omega)⟩
        rw [HR.out]
        go_enter Try.func20, Try.ntmps20
        go_wp2_with (first | ((with_reducible refine gate_dst (N := 1) rfl ?_); refine bx_ (N := 1) (cs := #[.int .i64 2, .int .i64 a, .int .i64 c, .slice A v.length cc, .int .i64 t, .int .i64 n, .int .i64 o]) (t := 24) ?_; intro g hg w1 hb HB; have XB := Aside0.mk HB; have BK := Aside0.mk hb; obtain ⟨k0, k1, k2, k3, k4, k5, k6⟩ := cells7 hb; clear hg hb HB) | (go_at_call 45; refine (is_c _ _).mono ?_; rintro e w' ⟨rfl, rfl⟩) | (go_at_call 43; refine (refspan_c _ _ _ (by omega) (by omega)).mono ?_; rintro e w' ⟨rfl, rfl⟩))
        go_ret
        exact ⟨rfl, XB.out⟩
       ·have z6 : spB a c = false := by simpa using hz6
        clear hz6
        have HR : Aside0 (chkB 2 a c v t n o = false) := ⟨by simp_all [chkB, wB] <;> (intros; omega)⟩
        rw [HR.out]
        go_enter Try.func20, Try.ntmps20
        go_wp2_with (first | ((with_reducible refine gate_dst (N := 1) rfl ?_); refine bx_ (N := 1) (cs := #[.int .i64 2, .int .i64 a, .int .i64 c, .slice A v.length cc, .int .i64 t, .int .i64 n, .int .i64 o]) (t := 24) ?_; intro g hg w1 hb HB; have XB := Aside0.mk HB; have BK := Aside0.mk hb; obtain ⟨k0, k1, k2, k3, k4, k5, k6⟩ := cells7 hb; clear hg hb HB) | (go_at_call 45; refine (is_c _ _).mono ?_; rintro e w' ⟨rfl, rfl⟩) | (go_at_call 43; refine (refspan_c _ _ _ (by omega) (by omega)).mono ?_; rintro e w' ⟨rfl, rfl⟩))
        go_ret
        exact ⟨rfl, XB.out⟩
      ·have z5 : decide (c ≤ 2000) = false := by simpa using hz5
       clear hz5
       have HR : Aside0 (chkB 2 a c v t n o = false) := ⟨by simp_all [chkB, wB] <;> (intros; omega)⟩
       rw [HR.out]
       go_enter Try.func20, Try.ntmps20
       go_wp2_with (first | ((with_reducible refine gate_dst (N := 1) rfl ?_); refine bx_ (N := 1) (cs := #[.int .i64 2, .int .i64 a, .int .i64 c, .slice A v.length cc, .int .i64 t, .int .i64 n, .int .i64 o]) (t := 24) ?_; intro g hg w1 hb HB; have XB := Aside0.mk HB; have BK := Aside0.mk hb; obtain ⟨k0, k1, k2, k3, k4, k5, k6⟩ := cells7 hb; clear hg hb HB) | (go_at_call 45; refine (is_c _ _).mono ?_; rintro e w' ⟨rfl, rfl⟩) | (go_at_call 43; refine (refspan_c _ _ _ (by omega) (by omega)).mono ?_; rintro e w' ⟨rfl, rfl⟩))
       go_ret
       exact ⟨rfl, XB.out⟩
     ·have z4 : decide (1 ≤ c) = false := by simpa using hz4
      clear hz4
      have HR : Aside0 (chkB 2 a c v t n o = false) := ⟨by simp_all [chkB, wB] <;> (intros; omega)⟩
      rw [HR.out]
      go_enter Try.func20, Try.ntmps20
      go_wp2_with (first | ((with_reducible refine gate_dst (N := 1) rfl ?_); refine bx_ (N := 1) (cs := #[.int .i64 2, .int .i64 a, .int .i64 c, .slice A v.length cc, .int .i64 t, .int .i64 n, .int .i64 o]) (t := 24) ?_; intro g hg w1 hb HB; have XB := Aside0.mk HB; have BK := Aside0.mk hb; obtain ⟨k0, k1, k2, k3, k4, k5, k6⟩ := cells7 hb; clear hg hb HB) | (go_at_call 45; refine (is_c _ _).mono ?_; rintro e w' ⟨rfl, rfl⟩) | (go_at_call 43; refine (refspan_c _ _ _ (by omega) (by omega)).mono ?_; rintro e w' ⟨rfl, rfl⟩))
      go_ret
      exact ⟨rfl, XB.out⟩
    ·have z3 : (t == 0) = false := by simpa using hz3
     clear hz3
     have HR : Aside0 (chkB 2 a c v t n o = false) := ⟨by simp_all [chkB, wB] <;> (intros; omega)⟩
     rw [HR.out]
     go_enter Try.func20, Try.ntmps20
     go_wp2_with (first | ((with_reducible refine gate_dst (N := 1) rfl ?_); refine bx_ (N := 1) (cs := #[.int .i64 2, .int .i64 a, .int .i64 c, .slice A v.length cc, .int .i64 t, .int .i64 n, .int .i64 o]) (t := 24) ?_; intro g hg w1 hb HB; have XB := Aside0.mk HB; have BK := Aside0.mk hb; obtain ⟨k0, k1, k2, k3, k4, k5, k6⟩ := cells7 hb; clear hg hb HB) | (go_at_call 45; refine (is_c _ _).mono ?_; rintro e w' ⟨rfl, rfl⟩) | (go_at_call 43; refine (refspan_c _ _ _ (by omega) (by omega)).mono ?_; rintro e w' ⟨rfl, rfl⟩))
     go_ret
     exact ⟨rfl, XB.out⟩
   ·have z2 : ((v.length : Int) == 0) = false := by simpa using hz2
    clear hz2
    have HR : Aside0 (chkB 2 a c v t n o = false) := ⟨by simp_all [chkB, wB] <;> (intros; omega)⟩
    rw [HR.out]
    go_enter Try.func20, Try.ntmps20
    go_wp2_with (first | ((with_reducible refine gate_dst (N := 1) rfl ?_); refine bx_ (N := 1) (cs := #[.int .i64 2, .int .i64 a, .int .i64 c, .slice A v.length cc, .int .i64 t, .int .i64 n, .int .i64 o]) (t := 24) ?_; intro g hg w1 hb HB; have XB := Aside0.mk HB; have BK := Aside0.mk hb; obtain ⟨k0, k1, k2, k3, k4, k5, k6⟩ := cells7 hb; clear hg hb HB) | (go_at_call 45; refine (is_c _ _).mono ?_; rintro e w' ⟨rfl, rfl⟩) | (go_at_call 43; refine (refspan_c _ _ _ (by omega) (by omega)).mono ?_; rintro e w' ⟨rfl, rfl⟩))
    go_ret
    exact ⟨rfl, XB.out⟩
  ·have z1 : (o == 0) = false := by simpa using hz1
   clear hz1
   by_cases hz2 : ((v.length : Int) == 0) = true
   ·have z2 : ((v.length : Int) == 0) = true := hz2; clear hz2
    have HR : Aside0 (chkB 2 a c v t n o = false) := ⟨by simp_all [chkB, wB] <;> (intros; omega)⟩
    rw [HR.out]
    go_enter Try.func20, Try.ntmps20
    go_wp2_with (first | ((with_reducible refine gate_dst (N := 1) rfl ?_); refine bx_ (N := 1) (cs := #[.int .i64 2, .int .i64 a, .int .i64 c, .slice A v.length cc, .int .i64 t, .int .i64 n, .int .i64 o]) (t := 24) ?_; intro g hg w1 hb HB; have XB := Aside0.mk HB; have BK := Aside0.mk hb; obtain ⟨k0, k1, k2, k3, k4, k5, k6⟩ := cells7 hb; clear hg hb HB) | (go_at_call 45; refine (is_c _ _).mono ?_; rintro e w' ⟨rfl, rfl⟩) | (go_at_call 43; refine (refspan_c _ _ _ (by omega) (by omega)).mono ?_; rintro e w' ⟨rfl, rfl⟩))
    go_ret
    exact ⟨rfl, XB.out⟩
   ·have z2 : ((v.length : Int) == 0) = false := by simpa using hz2
    clear hz2
    have HR : Aside0 (chkB 2 a c v t n o = false) := ⟨by simp_all [chkB, wB] <;> (intros; omega)⟩
    rw [HR.out]
    go_enter Try.func20, Try.ntmps20
    go_wp2_with (first | ((with_reducible refine gate_dst (N := 1) rfl ?_); refine bx_ (N := 1) (cs := #[.int .i64 2, .int .i64 a, .int .i64 c, .slice A v.length cc, .int .i64 t, .int .i64 n, .int .i64 o]) (t := 24) ?_; intro g hg w1 hb HB; have XB := Aside0.mk HB; have BK := Aside0.mk hb; obtain ⟨k0, k1, k2, k3, k4, k5, k6⟩ := cells7 hb; clear hg hb HB) | (go_at_call 45; refine (is_c _ _).mono ?_; rintro e w' ⟨rfl, rfl⟩) | (go_at_call 43; refine (refspan_c _ _ _ (by omega) (by omega)).mono ?_; rintro e w' ⟨rfl, rfl⟩))
    go_ret
    exact ⟨rfl, XB.out⟩
 ·have z0 : (n == 0) = false := by simpa using hz0
  clear hz0
  by_cases hz1 : ((v.length : Int) == 0) = true
  ·have z1 : ((v.length : Int) == 0) = true := hz1; clear hz1
   have HR : Aside0 (chkB 2 a c v t n o = false) := ⟨by simp_all [chkB, wB] <;> (intros; omega)⟩
   rw [HR.out]
   go_enter Try.func20, Try.ntmps20
   go_wp2_with (first | ((with_reducible refine gate_dst (N := 1) rfl ?_); refine bx_ (N := 1) (cs := #[.int .i64 2, .int .i64 a, .int .i64 c, .slice A v.length cc, .int .i64 t, .int .i64 n, .int .i64 o]) (t := 24) ?_; intro g hg w1 hb HB; have XB := Aside0.mk HB; have BK := Aside0.mk hb; obtain ⟨k0, k1, k2, k3, k4, k5, k6⟩ := cells7 hb; clear hg hb HB) | (go_at_call 45; refine (is_c _ _).mono ?_; rintro e w' ⟨rfl, rfl⟩) | (go_at_call 43; refine (refspan_c _ _ _ (by omega) (by omega)).mono ?_; rintro e w' ⟨rfl, rfl⟩))
   go_ret
   exact ⟨rfl, XB.out⟩
  ·have z1 : ((v.length : Int) == 0) = false := by simpa using hz1
   clear hz1
   have HR : Aside0 (chkB 2 a c v t n o = false) := ⟨by simp_all [chkB, wB] <;> (intros; omega)⟩
   rw [HR.out]
   go_enter Try.func20, Try.ntmps20
   go_wp2_with (first | ((with_reducible refine gate_dst (N := 1) rfl ?_); refine bx_ (N := 1) (cs := #[.int .i64 2, .int .i64 a, .int .i64 c, .slice A v.length cc, .int .i64 t, .int .i64 n, .int .i64 o]) (t := 24) ?_; intro g hg w1 hb HB; have XB := Aside0.mk HB; have BK := Aside0.mk hb; obtain ⟨k0, k1, k2, k3, k4, k5, k6⟩ := cells7 hb; clear hg hb HB) | (go_at_call 45; refine (is_c _ _).mono ?_; rintro e w' ⟨rfl, rfl⟩) | (go_at_call 43; refine (refspan_c _ _ _ (by omega) (by omega)).mono ?_; rintro e w' ⟨rfl, rfl⟩))
   go_ret
   exact ⟨rfl, XB.out⟩
end Go.Proofs.Ytocicifgglkaeaa.Chk
end

section
namespace Go.Proofs.Ytocicifgglkaeaa.Chk
open Go.RowKit Go.Proofs.YtocicifgglkaeaaW.PrintWords Go.Proofs.YtocicifgglkaeaaW.PrintLast Go.Proofs.YtocicifgglkaeaaW.PrintMore Go.Proofs.Ytocicifgglkaeaa.Core Go.Proofs.Ytocicifgglkaeaa.Wk
set_option linter.unusedVariables false
set_option linter.unusedSimpArgs false
set_option maxHeartbeats 4000000 in
set_option maxRecDepth 100000 in
theorem may_3 (a c : Int) (A : Option Addr) (cc : Nat) (v : List Int) (t n o : Int) (w : World) (hV : Kd.C (Kd.int .i64) w A v.length v) : Calls Try.prog 20 #[.agg #[.int .i64 3, .int .i64 a, .int .i64 c, .slice A v.length cc, .int .i64 t, .int .i64 n, .int .i64 o]] w fun e w' => e = .returned (.bool (chkB 3 a c v t n o)) ∧ Below w.heap.size w w' := by
 have HV := Aside0.mk hV; clear hV
 by_cases hz0 : (n == 0) = true
 ·have z0 : (n == 0) = true := hz0; clear hz0
  by_cases hz1 : (o == 0) = true
  ·have z1 : (o == 0) = true := hz1; clear hz1
   by_cases hz2 : ((v.length : Int) == 0) = true
   ·have z2 : ((v.length : Int) == 0) = true := hz2; clear hz2
    by_cases hz3 : (t == 0) = true
    ·have z3 : (t == 0) = true := hz3; clear hz3
     by_cases hz4 : decide (1 ≤ c) = true
     ·have z4 : decide (1 ≤ c) = true := hz4; clear hz4; have pz4 := of_decide_eq_true z4
      by_cases hz5 : decide (c ≤ 125) = true
      ·have z5 : decide (c ≤ 125) = true := hz5; clear hz5; have pz5 := of_decide_eq_true z5
       by_cases hz6 : spB a c = true
       ·have z6 : spB a c = true := hz6; clear hz6
        have HR : Aside0 (chkB 3 a c v t n o = true) := ⟨by simp_all [chkB, wB] <;> (intros; omega)⟩
        rw [HR.out]
        go_enter Try.func20, Try.ntmps20
        go_wp2_with (first | ((with_reducible refine gate_dst (N := 1) rfl ?_); refine bx_ (N := 1) (cs := #[.int .i64 3, .int .i64 a, .int .i64 c, .slice A v.length cc, .int .i64 t, .int .i64 n, .int .i64 o]) (t := 24) ?_; intro g hg w1 hb HB; have XB := Aside0.mk HB; have BK := Aside0.mk hb; obtain ⟨k0, k1, k2, k3, k4, k5, k6⟩ := cells7 hb; clear hg hb HB) | (go_at_call 45; refine (is_c _ _).mono ?_; rintro e w' ⟨rfl, rfl⟩) | (go_at_call 43; refine (refspan_c _ _ _ (by omega) (by omega)).mono ?_; rintro e w' ⟨rfl, rfl⟩))
        go_ret
        exact ⟨rfl, XB.out⟩
       ·have z6 : spB a c = false := by simpa using hz6
        clear hz6
        have HR : Aside0 (chkB 3 a c v t n o = false) := ⟨by simp_all [chkB, wB] <;> (intros; omega)⟩
        rw [HR.out]
        go_enter Try.func20, Try.ntmps20
        go_wp2_with (first | ((with_reducible refine gate_dst (N := 1) rfl ?_); refine bx_ (N := 1) (cs := #[.int .i64 3, .int .i64 a, .int .i64 c, .slice A v.length cc, .int .i64 t, .int .i64 n, .int .i64 o]) (t := 24) ?_; intro g hg w1 hb HB; have XB := Aside0.mk HB; have BK := Aside0.mk hb; obtain ⟨k0, k1, k2, k3, k4, k5, k6⟩ := cells7 hb; clear hg hb HB) | (go_at_call 45; refine (is_c _ _).mono ?_; rintro e w' ⟨rfl, rfl⟩) | (go_at_call 43; refine (refspan_c _ _ _ (by omega) (by omega)).mono ?_; rintro e w' ⟨rfl, rfl⟩))
        go_ret
        exact ⟨rfl, XB.out⟩
      ·have z5 : decide (c ≤ 125) = false := by simpa using hz5
       clear hz5
       have HR : Aside0 (chkB 3 a c v t n o = false) := ⟨by simp_all [chkB, wB] <;> (intros; omega)⟩
       rw [HR.out]
       go_enter Try.func20, Try.ntmps20
       go_wp2_with (first | ((with_reducible refine gate_dst (N := 1) rfl ?_); refine bx_ (N := 1) (cs := #[.int .i64 3, .int .i64 a, .int .i64 c, .slice A v.length cc, .int .i64 t, .int .i64 n, .int .i64 o]) (t := 24) ?_; intro g hg w1 hb HB; have XB := Aside0.mk HB; have BK := Aside0.mk hb; obtain ⟨k0, k1, k2, k3, k4, k5, k6⟩ := cells7 hb; clear hg hb HB) | (go_at_call 45; refine (is_c _ _).mono ?_; rintro e w' ⟨rfl, rfl⟩) | (go_at_call 43; refine (refspan_c _ _ _ (by omega) (by omega)).mono ?_; rintro e w' ⟨rfl, rfl⟩))
       go_ret
       exact ⟨rfl, XB.out⟩
     ·have z4 : decide (1 ≤ c) = false := by simpa using hz4
      clear hz4
      have HR : Aside0 (chkB 3 a c v t n o = false) := ⟨by simp_all [chkB, wB] <;> (intros; omega)⟩
      rw [HR.out]
      go_enter Try.func20, Try.ntmps20
      go_wp2_with (first | ((with_reducible refine gate_dst (N := 1) rfl ?_); refine bx_ (N := 1) (cs := #[.int .i64 3, .int .i64 a, .int .i64 c, .slice A v.length cc, .int .i64 t, .int .i64 n, .int .i64 o]) (t := 24) ?_; intro g hg w1 hb HB; have XB := Aside0.mk HB; have BK := Aside0.mk hb; obtain ⟨k0, k1, k2, k3, k4, k5, k6⟩ := cells7 hb; clear hg hb HB) | (go_at_call 45; refine (is_c _ _).mono ?_; rintro e w' ⟨rfl, rfl⟩) | (go_at_call 43; refine (refspan_c _ _ _ (by omega) (by omega)).mono ?_; rintro e w' ⟨rfl, rfl⟩))
      go_ret
      exact ⟨rfl, XB.out⟩
    ·have z3 : (t == 0) = false := by simpa using hz3
     clear hz3
     have HR : Aside0 (chkB 3 a c v t n o = false) := ⟨by simp_all [chkB, wB] <;> (intros; omega)⟩
     rw [HR.out]
     go_enter Try.func20, Try.ntmps20
     go_wp2_with (first | ((with_reducible refine gate_dst (N := 1) rfl ?_); refine bx_ (N := 1) (cs := #[.int .i64 3, .int .i64 a, .int .i64 c, .slice A v.length cc, .int .i64 t, .int .i64 n, .int .i64 o]) (t := 24) ?_; intro g hg w1 hb HB; have XB := Aside0.mk HB; have BK := Aside0.mk hb; obtain ⟨k0, k1, k2, k3, k4, k5, k6⟩ := cells7 hb; clear hg hb HB) | (go_at_call 45; refine (is_c _ _).mono ?_; rintro e w' ⟨rfl, rfl⟩) | (go_at_call 43; refine (refspan_c _ _ _ (by omega) (by omega)).mono ?_; rintro e w' ⟨rfl, rfl⟩))
     go_ret
     exact ⟨rfl, XB.out⟩
   ·have z2 : ((v.length : Int) == 0) = false := by simpa using hz2
    clear hz2
    have HR : Aside0 (chkB 3 a c v t n o = false) := ⟨by simp_all [chkB, wB] <;> (intros; omega)⟩
    rw [HR.out]
    go_enter Try.func20, Try.ntmps20
    go_wp2_with (first | ((with_reducible refine gate_dst (N := 1) rfl ?_); refine bx_ (N := 1) (cs := #[.int .i64 3, .int .i64 a, .int .i64 c, .slice A v.length cc, .int .i64 t, .int .i64 n, .int .i64 o]) (t := 24) ?_; intro g hg w1 hb HB; have XB := Aside0.mk HB; have BK := Aside0.mk hb; obtain ⟨k0, k1, k2, k3, k4, k5, k6⟩ := cells7 hb; clear hg hb HB) | (go_at_call 45; refine (is_c _ _).mono ?_; rintro e w' ⟨rfl, rfl⟩) | (go_at_call 43; refine (refspan_c _ _ _ (by omega) (by omega)).mono ?_; rintro e w' ⟨rfl, rfl⟩))
    go_ret
    exact ⟨rfl, XB.out⟩
  ·have z1 : (o == 0) = false := by simpa using hz1
   clear hz1
   by_cases hz2 : ((v.length : Int) == 0) = true
   ·have z2 : ((v.length : Int) == 0) = true := hz2; clear hz2
    have HR : Aside0 (chkB 3 a c v t n o = false) := ⟨by simp_all [chkB, wB] <;> (intros; omega)⟩
    rw [HR.out]
    go_enter Try.func20, Try.ntmps20
    go_wp2_with (first | ((with_reducible refine gate_dst (N := 1) rfl ?_); refine bx_ (N := 1) (cs := #[.int .i64 3, .int .i64 a, .int .i64 c, .slice A v.length cc, .int .i64 t, .int .i64 n, .int .i64 o]) (t := 24) ?_; intro g hg w1 hb HB; have XB := Aside0.mk HB; have BK := Aside0.mk hb; obtain ⟨k0, k1, k2, k3, k4, k5, k6⟩ := cells7 hb; clear hg hb HB) | (go_at_call 45; refine (is_c _ _).mono ?_; rintro e w' ⟨rfl, rfl⟩) | (go_at_call 43; refine (refspan_c _ _ _ (by omega) (by omega)).mono ?_; rintro e w' ⟨rfl, rfl⟩))
    go_ret
    exact ⟨rfl, XB.out⟩
   ·have z2 : ((v.length : Int) == 0) = false := by simpa using hz2
    clear hz2
    have HR : Aside0 (chkB 3 a c v t n o = false) := ⟨by simp_all [chkB, wB] <;> (intros; omega)⟩
    rw [HR.out]
    go_enter Try.func20, Try.ntmps20
    go_wp2_with (first | ((with_reducible refine gate_dst (N := 1) rfl ?_); refine bx_ (N := 1) (cs := #[.int .i64 3, .int .i64 a, .int .i64 c, .slice A v.length cc, .int .i64 t, .int .i64 n, .int .i64 o]) (t := 24) ?_; intro g hg w1 hb HB; have XB := Aside0.mk HB; have BK := Aside0.mk hb; obtain ⟨k0, k1, k2, k3, k4, k5, k6⟩ := cells7 hb; clear hg hb HB) | (go_at_call 45; refine (is_c _ _).mono ?_; rintro e w' ⟨rfl, rfl⟩) | (go_at_call 43; refine (refspan_c _ _ _ (by omega) (by omega)).mono ?_; rintro e w' ⟨rfl, rfl⟩))
    go_ret
    exact ⟨rfl, XB.out⟩
 ·have z0 : (n == 0) = false := by simpa using hz0
  clear hz0
  by_cases hz1 : ((v.length : Int) == 0) = true
  ·have z1 : ((v.length : Int) == 0) = true := hz1; clear hz1
   have HR : Aside0 (chkB 3 a c v t n o = false) := ⟨by simp_all [chkB, wB] <;> (intros; omega)⟩
   rw [HR.out]
   go_enter Try.func20, Try.ntmps20
   go_wp2_with (first | ((with_reducible refine gate_dst (N := 1) rfl ?_); refine bx_ (N := 1) (cs := #[.int .i64 3, .int .i64 a, .int .i64 c, .slice A v.length cc, .int .i64 t, .int .i64 n, .int .i64 o]) (t := 24) ?_; intro g hg w1 hb HB; have XB := Aside0.mk HB; have BK := Aside0.mk hb; obtain ⟨k0, k1, k2, k3, k4, k5, k6⟩ := cells7 hb; clear hg hb HB) | (go_at_call 45; refine (is_c _ _).mono ?_; rintro e w' ⟨rfl, rfl⟩) | (go_at_call 43; refine (refspan_c _ _ _ (by omega) (by omega)).mono ?_; rintro e w' ⟨rfl, rfl⟩))
   go_ret
   exact ⟨rfl, XB.out⟩
  ·have z1 : ((v.length : Int) == 0) = false := by simpa using hz1
   clear hz1
   have HR : Aside0 (chkB 3 a c v t n o = false) := ⟨by simp_all [chkB, wB] <;> (intros; omega)⟩
   rw [HR.out]
   go_enter Try.func20, Try.ntmps20
   go_wp2_with (first | ((with_reducible refine gate_dst (N := 1) rfl ?_); refine bx_ (N := 1) (cs := #[.int .i64 3, .int .i64 a, .int .i64 c, .slice A v.length cc, .int .i64 t, .int .i64 n, .int .i64 o]) (t := 24) ?_; intro g hg w1 hb HB; have XB := Aside0.mk HB; have BK := Aside0.mk hb; obtain ⟨k0, k1, k2, k3, k4, k5, k6⟩ := cells7 hb; clear hg hb HB) | (go_at_call 45; refine (is_c _ _).mono ?_; rintro e w' ⟨rfl, rfl⟩) | (go_at_call 43; refine (refspan_c _ _ _ (by omega) (by omega)).mono ?_; rintro e w' ⟨rfl, rfl⟩))
   go_ret
   exact ⟨rfl, XB.out⟩
set_option maxHeartbeats 4000000 in
set_option maxRecDepth 100000 in
theorem may_4 (a c : Int) (A : Option Addr) (cc : Nat) (v : List Int) (t n o : Int) (w : World) (hV : Kd.C (Kd.int .i64) w A v.length v) : Calls Try.prog 20 #[.agg #[.int .i64 4, .int .i64 a, .int .i64 c, .slice A v.length cc, .int .i64 t, .int .i64 n, .int .i64 o]] w fun e w' => e = .returned (.bool (chkB 4 a c v t n o)) ∧ Below w.heap.size w w' := by
 have HV := Aside0.mk hV; clear hV
 by_cases hz0 : (n == 0) = true
 ·have z0 : (n == 0) = true := hz0; clear hz0
  by_cases hz1 : (o == 0) = true
  ·have z1 : (o == 0) = true := hz1; clear hz1
   by_cases hz2 : ((v.length : Int) == 0) = true
   ·have z2 : ((v.length : Int) == 0) = true := hz2; clear hz2
    by_cases hz3 : (t == 0) = true
    ·have z3 : (t == 0) = true := hz3; clear hz3
     by_cases hz4 : decide (1 ≤ c) = true
     ·have z4 : decide (1 ≤ c) = true := hz4; clear hz4; have pz4 := of_decide_eq_true z4
      by_cases hz5 : decide (c ≤ 125) = true
      ·have z5 : decide (c ≤ 125) = true := hz5; clear hz5; have pz5 := of_decide_eq_true z5
       by_cases hz6 : spB a c = true
       ·have z6 : spB a c = true := hz6; clear hz6
        have HR : Aside0 (chkB 4 a c v t n o = true) := ⟨by simp_all [chkB, wB] <;> (intros; omega)⟩
        rw [HR.out]
        go_enter Try.func20, Try.ntmps20
        go_wp2_with (first | ((with_reducible refine gate_dst (N := 1) rfl ?_); refine bx_ (N := 1) (cs := #[.int .i64 4, .int .i64 a, .int .i64 c, .slice A v.length cc, .int .i64 t, .int .i64 n, .int .i64 o]) (t := 24) ?_; intro g hg w1 hb HB; have XB := Aside0.mk HB; have BK := Aside0.mk hb; obtain ⟨k0, k1, k2, k3, k4, k5, k6⟩ := cells7 hb; clear hg hb HB) | (go_at_call 45; refine (is_c _ _).mono ?_; rintro e w' ⟨rfl, rfl⟩) | (go_at_call 43; refine (refspan_c _ _ _ (by omega) (by omega)).mono ?_; rintro e w' ⟨rfl, rfl⟩))
        go_ret
        exact ⟨rfl, XB.out⟩
       ·have z6 : spB a c = false := by simpa using hz6
        clear hz6
        have HR : Aside0 (chkB 4 a c v t n o = false) := ⟨by simp_all [chkB, wB] <;> (intros; omega)⟩
        rw [HR.out]
        go_enter Try.func20, Try.ntmps20
        go_wp2_with (first | ((with_reducible refine gate_dst (N := 1) rfl ?_); refine bx_ (N := 1) (cs := #[.int .i64 4, .int .i64 a, .int .i64 c, .slice A v.length cc, .int .i64 t, .int .i64 n, .int .i64 o]) (t := 24) ?_; intro g hg w1 hb HB; have XB := Aside0.mk HB; have BK := Aside0.mk hb; obtain ⟨k0, k1, k2, k3, k4, k5, k6⟩ := cells7 hb; clear hg hb HB) | (go_at_call 45; refine (is_c _ _).mono ?_; rintro e w' ⟨rfl, rfl⟩) | (go_at_call 43; refine (refspan_c _ _ _ (by omega) (by omega)).mono ?_; rintro e w' ⟨rfl, rfl⟩))
        go_ret
        exact ⟨rfl, XB.out⟩
      ·have z5 : decide (c ≤ 125) = false := by simpa using hz5
       clear hz5
       have HR : Aside0 (chkB 4 a c v t n o = false) := ⟨by simp_all [chkB, wB] <;> (intros; omega)⟩
       rw [HR.out]
       go_enter Try.func20, Try.ntmps20
       go_wp2_with (first | ((with_reducible refine gate_dst (N := 1) rfl ?_); refine bx_ (N := 1) (cs := #[.int .i64 4, .int .i64 a, .int .i64 c, .slice A v.length cc, .int .i64 t, .int .i64 n, .int .i64 o]) (t := 24) ?_; intro g hg w1 hb HB; have XB := Aside0.mk HB; have BK := Aside0.mk hb; obtain ⟨k0, k1, k2, k3, k4, k5, k6⟩ := cells7 hb; clear hg hb HB) | (go_at_call 45; refine (is_c _ _).mono ?_; rintro e w' ⟨rfl, rfl⟩) | (go_at_call 43; refine (refspan_c _ _ _ (by omega) (by omega)).mono ?_; rintro e w' ⟨rfl, rfl⟩))
       go_ret
       exact ⟨rfl, XB.out⟩
     ·have z4 : decide (1 ≤ c) = false := by simpa using hz4
      clear hz4
      have HR : Aside0 (chkB 4 a c v t n o = false) := ⟨by simp_all [chkB, wB] <;> (intros; omega)⟩
      rw [HR.out]
      go_enter Try.func20, Try.ntmps20
      go_wp2_with (first | ((with_reducible refine gate_dst (N := 1) rfl ?_); refine bx_ (N := 1) (cs := #[.int .i64 4, .int .i64 a, .int .i64 c, .slice A v.length cc, .int .i64 t, .int .i64 n, .int .i64 o]) (t := 24) ?_; intro g hg w1 hb HB; have XB := Aside0.mk HB; have BK := Aside0.mk hb; obtain ⟨k0, k1, k2, k3, k4, k5, k6⟩ := cells7 hb; clear hg hb HB) | (go_at_call 45; refine (is_c _ _).mono ?_; rintro e w' ⟨rfl, rfl⟩) | (go_at_call 43; refine (refspan_c _ _ _ (by omega) (by omega)).mono ?_; rintro e w' ⟨rfl, rfl⟩))
      go_ret
      exact ⟨rfl, XB.out⟩
    ·have z3 : (t == 0) = false := by simpa using hz3
     clear hz3
     have HR : Aside0 (chkB 4 a c v t n o = false) := ⟨by simp_all [chkB, wB] <;> (intros; omega)⟩
     rw [HR.out]
     go_enter Try.func20, Try.ntmps20
     go_wp2_with (first | ((with_reducible refine gate_dst (N := 1) rfl ?_); refine bx_ (N := 1) (cs := #[.int .i64 4, .int .i64 a, .int .i64 c, .slice A v.length cc, .int .i64 t, .int .i64 n, .int .i64 o]) (t := 24) ?_; intro g hg w1 hb HB; have XB := Aside0.mk HB; have BK := Aside0.mk hb; obtain ⟨k0, k1, k2, k3, k4, k5, k6⟩ := cells7 hb; clear hg hb HB) | (go_at_call 45; refine (is_c _ _).mono ?_; rintro e w' ⟨rfl, rfl⟩) | (go_at_call 43; refine (refspan_c _ _ _ (by omega) (by omega)).mono ?_; rintro e w' ⟨rfl, rfl⟩))
     go_ret
     exact ⟨rfl, XB.out⟩
   ·have z2 : ((v.length : Int) == 0) = false := by simpa using hz2
    clear hz2
    have HR : Aside0 (chkB 4 a c v t n o = false) := ⟨by simp_all [chkB, wB] <;> (intros; omega)⟩
    rw [HR.out]
    go_enter Try.func20, Try.ntmps20
    go_wp2_with (first | ((with_reducible refine gate_dst (N := 1) rfl ?_); refine bx_ (N := 1) (cs := #[.int .i64 4, .int .i64 a, .int .i64 c, .slice A v.length cc, .int .i64 t, .int .i64 n, .int .i64 o]) (t := 24) ?_; intro g hg w1 hb HB; have XB := Aside0.mk HB; have BK := Aside0.mk hb; obtain ⟨k0, k1, k2, k3, k4, k5, k6⟩ := cells7 hb; clear hg hb HB) | (go_at_call 45; refine (is_c _ _).mono ?_; rintro e w' ⟨rfl, rfl⟩) | (go_at_call 43; refine (refspan_c _ _ _ (by omega) (by omega)).mono ?_; rintro e w' ⟨rfl, rfl⟩))
    go_ret
    exact ⟨rfl, XB.out⟩
  ·have z1 : (o == 0) = false := by simpa using hz1
   clear hz1
   by_cases hz2 : ((v.length : Int) == 0) = true
   ·have z2 : ((v.length : Int) == 0) = true := hz2; clear hz2
    have HR : Aside0 (chkB 4 a c v t n o = false) := ⟨by simp_all [chkB, wB] <;> (intros; omega)⟩
    rw [HR.out]
    go_enter Try.func20, Try.ntmps20
    go_wp2_with (first | ((with_reducible refine gate_dst (N := 1) rfl ?_); refine bx_ (N := 1) (cs := #[.int .i64 4, .int .i64 a, .int .i64 c, .slice A v.length cc, .int .i64 t, .int .i64 n, .int .i64 o]) (t := 24) ?_; intro g hg w1 hb HB; have XB := Aside0.mk HB; have BK := Aside0.mk hb; obtain ⟨k0, k1, k2, k3, k4, k5, k6⟩ := cells7 hb; clear hg hb HB) | (go_at_call 45; refine (is_c _ _).mono ?_; rintro e w' ⟨rfl, rfl⟩) | (go_at_call 43; refine (refspan_c _ _ _ (by omega) (by omega)).mono ?_; rintro e w' ⟨rfl, rfl⟩))
    go_ret
    exact ⟨rfl, XB.out⟩
   ·have z2 : ((v.length : Int) == 0) = false := by simpa using hz2
    clear hz2
    have HR : Aside0 (chkB 4 a c v t n o = false) := ⟨by simp_all [chkB, wB] <;> (intros; omega)⟩
    rw [HR.out]
    go_enter Try.func20, Try.ntmps20
    go_wp2_with (first | ((with_reducible refine gate_dst (N := 1) rfl ?_); refine bx_ (N := 1) (cs := #[.int .i64 4, .int .i64 a, .int .i64 c, .slice A v.length cc, .int .i64 t, .int .i64 n, .int .i64 o]) (t := 24) ?_; intro g hg w1 hb HB; have XB := Aside0.mk HB; have BK := Aside0.mk hb; obtain ⟨k0, k1, k2, k3, k4, k5, k6⟩ := cells7 hb; clear hg hb HB) | (go_at_call 45; refine (is_c _ _).mono ?_; rintro e w' ⟨rfl, rfl⟩) | (go_at_call 43; refine (refspan_c _ _ _ (by omega) (by omega)).mono ?_; rintro e w' ⟨rfl, rfl⟩))
    go_ret
    exact ⟨rfl, XB.out⟩
 ·have z0 : (n == 0) = false := by simpa using hz0
  clear hz0
  by_cases hz1 : ((v.length : Int) == 0) = true
  ·have z1 : ((v.length : Int) == 0) = true := hz1; clear hz1
   have HR : Aside0 (chkB 4 a c v t n o = false) := ⟨by simp_all [chkB, wB] <;> (intros; omega)⟩
   rw [HR.out]
   go_enter Try.func20, Try.ntmps20
   go_wp2_with (first | ((with_reducible refine gate_dst (N := 1) rfl ?_); refine bx_ (N := 1) (cs := #[.int .i64 4, .int .i64 a, .int .i64 c, .slice A v.length cc, .int .i64 t, .int .i64 n, .int .i64 o]) (t := 24) ?_; intro g hg w1 hb HB; have XB := Aside0.mk HB; have BK := Aside0.mk hb; obtain ⟨k0, k1, k2, k3, k4, k5, k6⟩ := cells7 hb; clear hg hb HB) | (go_at_call 45; refine (is_c _ _).mono ?_; rintro e w' ⟨rfl, rfl⟩) | (go_at_call 43; refine (refspan_c _ _ _ (by omega) (by omega)).mono ?_; rintro e w' ⟨rfl, rfl⟩))
   go_ret
   exact ⟨rfl, XB.out⟩
  ·have z1 : ((v.length : Int) == 0) = false := by simpa using hz1
   clear hz1
   have HR : Aside0 (chkB 4 a c v t n o = false) := ⟨by simp_all [chkB, wB] <;> (intros; omega)⟩
   rw [HR.out]
   go_enter Try.func20, Try.ntmps20
   go_wp2_with (first | ((with_reducible refine gate_dst (N := 1) rfl ?_); refine bx_ (N := 1) (cs := #[.int .i64 4, .int .i64 a, .int .i64 c, .slice A v.length cc, .int .i64 t, .int .i64 n, .int .i64 o]) (t := 24) ?_; intro g hg w1 hb HB; have XB := Aside0.mk HB; have BK := Aside0.mk hb; obtain ⟨k0, k1, k2, k3, k4, k5, k6⟩ := cells7 hb; clear hg hb HB) | (go_at_call 45; refine (is_c _ _).mono ?_; rintro e w' ⟨rfl, rfl⟩) | (go_at_call 43; refine (refspan_c _ _ _ (by omega) (by omega)).mono ?_; rintro e w' ⟨rfl, rfl⟩))
   go_ret
   exact ⟨rfl, XB.out⟩
end Go.Proofs.Ytocicifgglkaeaa.Chk
end

section
namespace Go.Proofs.Ytocicifgglkaeaa.Chk
open Go.RowKit Go.Proofs.YtocicifgglkaeaaW.PrintWords Go.Proofs.YtocicifgglkaeaaW.PrintLast Go.Proofs.YtocicifgglkaeaaW.PrintMore Go.Proofs.Ytocicifgglkaeaa.Core Go.Proofs.Ytocicifgglkaeaa.Wk
set_option linter.unusedVariables false
set_option linter.unusedSimpArgs false
set_option maxHeartbeats 4000000 in
set_option maxRecDepth 100000 in
theorem may_5 (a c : Int) (A : Option Addr) (cc : Nat) (v : List Int) (t n o : Int) (w : World) (hV : Kd.C (Kd.int .i64) w A v.length v) : Calls Try.prog 20 #[.agg #[.int .i64 5, .int .i64 a, .int .i64 c, .slice A v.length cc, .int .i64 t, .int .i64 n, .int .i64 o]] w fun e w' => e = .returned (.bool (chkB 5 a c v t n o)) ∧ Below w.heap.size w w' := by
 have HV := Aside0.mk hV; clear hV
 by_cases hz0 : (n == 0) = true
 ·have z0 : (n == 0) = true := hz0; clear hz0
  by_cases hz1 : (o == 0) = true
  ·have z1 : (o == 0) = true := hz1; clear hz1
   by_cases hz2 : (t == 0) = true
   ·have z2 : (t == 0) = true := hz2; clear hz2
    by_cases hz3 : (c == 0) = true
    ·have z3 : (c == 0) = true := hz3; clear hz3
     by_cases hz4 : smB 1 1 1 v = true
     ·have z4 : smB 1 1 1 v = true := hz4; clear hz4; have pz4 := smB_len z4
      by_cases hz5 : spB a 1 = true
      ·have z5 : spB a 1 = true := hz5; clear hz5
       have HR : Aside0 (chkB 5 a c v t n o = true) := ⟨by simp_all [chkB, wB] <;> (intros; omega)⟩
       rw [HR.out]
       go_enter Try.func20, Try.ntmps20
       go_wp2_with (first | ((with_reducible refine gate_dst (N := 1) rfl ?_); refine bx_ (N := 1) (cs := #[.int .i64 5, .int .i64 a, .int .i64 c, .slice A v.length cc, .int .i64 t, .int .i64 n, .int .i64 o]) (t := 24) ?_; intro g hg w1 hb HB; have XB := Aside0.mk HB; have BK := Aside0.mk hb; obtain ⟨k0, k1, k2, k3, k4, k5, k6⟩ := cells7 hb; clear hg hb HB) | (go_at_call 45; refine (is_c _ _).mono ?_; rintro e w' ⟨rfl, rfl⟩) | (go_at_call 43; refine (refspan_c _ _ _ (by omega) (by omega)).mono ?_; rintro e w' ⟨rfl, rfl⟩) | (go_at_call 44; refine (vals_c 5 a c A cc v t n o _ _ _ (Kd.C_below HV.out XB.out) (m := 1) (by decide)).mono ?_; rintro e w2 ⟨rfl, HB⟩; have XBn := Aside0.mk (below_step XB.out HB); have BKn := Aside0.mk (blk_below BK.out HB); obtain ⟨k0, k1, k2, k3, k4, k5, k6⟩ := cells7 BKn.out; clear HB XB BK; have XB := XBn; have BK := BKn))
       go_ret
       exact ⟨rfl, XB.out⟩
      ·have z5 : spB a 1 = false := by simpa using hz5
       clear hz5
       have HR : Aside0 (chkB 5 a c v t n o = false) := ⟨by simp_all [chkB, wB] <;> (intros; omega)⟩
       rw [HR.out]
       go_enter Try.func20, Try.ntmps20
       go_wp2_with (first | ((with_reducible refine gate_dst (N := 1) rfl ?_); refine bx_ (N := 1) (cs := #[.int .i64 5, .int .i64 a, .int .i64 c, .slice A v.length cc, .int .i64 t, .int .i64 n, .int .i64 o]) (t := 24) ?_; intro g hg w1 hb HB; have XB := Aside0.mk HB; have BK := Aside0.mk hb; obtain ⟨k0, k1, k2, k3, k4, k5, k6⟩ := cells7 hb; clear hg hb HB) | (go_at_call 45; refine (is_c _ _).mono ?_; rintro e w' ⟨rfl, rfl⟩) | (go_at_call 43; refine (refspan_c _ _ _ (by omega) (by omega)).mono ?_; rintro e w' ⟨rfl, rfl⟩) | (go_at_call 44; refine (vals_c 5 a c A cc v t n o _ _ _ (Kd.C_below HV.out XB.out) (m := 1) (by decide)).mono ?_; rintro e w2 ⟨rfl, HB⟩; have XBn := Aside0.mk (below_step XB.out HB); have BKn := Aside0.mk (blk_below BK.out HB); obtain ⟨k0, k1, k2, k3, k4, k5, k6⟩ := cells7 BKn.out; clear HB XB BK; have XB := XBn; have BK := BKn))
       go_ret
       exact ⟨rfl, XB.out⟩
     ·have z4 : smB 1 1 1 v = false := by simpa using hz4
      clear hz4
      have HR : Aside0 (chkB 5 a c v t n o = false) := ⟨by simp_all [chkB, wB] <;> (intros; omega)⟩
      rw [HR.out]
      go_enter Try.func20, Try.ntmps20
      go_wp2_with (first | ((with_reducible refine gate_dst (N := 1) rfl ?_); refine bx_ (N := 1) (cs := #[.int .i64 5, .int .i64 a, .int .i64 c, .slice A v.length cc, .int .i64 t, .int .i64 n, .int .i64 o]) (t := 24) ?_; intro g hg w1 hb HB; have XB := Aside0.mk HB; have BK := Aside0.mk hb; obtain ⟨k0, k1, k2, k3, k4, k5, k6⟩ := cells7 hb; clear hg hb HB) | (go_at_call 45; refine (is_c _ _).mono ?_; rintro e w' ⟨rfl, rfl⟩) | (go_at_call 43; refine (refspan_c _ _ _ (by omega) (by omega)).mono ?_; rintro e w' ⟨rfl, rfl⟩) | (go_at_call 44; refine (vals_c 5 a c A cc v t n o _ _ _ (Kd.C_below HV.out XB.out) (m := 1) (by decide)).mono ?_; rintro e w2 ⟨rfl, HB⟩; have XBn := Aside0.mk (below_step XB.out HB); have BKn := Aside0.mk (blk_below BK.out HB); obtain ⟨k0, k1, k2, k3, k4, k5, k6⟩ := cells7 BKn.out; clear HB XB BK; have XB := XBn; have BK := BKn))
      go_ret
      exact ⟨rfl, XB.out⟩
    ·have z3 : (c == 0) = false := by simpa using hz3
     clear hz3
     have HR : Aside0 (chkB 5 a c v t n o = false) := ⟨by simp_all [chkB, wB] <;> (intros; omega)⟩
     rw [HR.out]
     go_enter Try.func20, Try.ntmps20
     go_wp2_with (first | ((with_reducible refine gate_dst (N := 1) rfl ?_); refine bx_ (N := 1) (cs := #[.int .i64 5, .int .i64 a, .int .i64 c, .slice A v.length cc, .int .i64 t, .int .i64 n, .int .i64 o]) (t := 24) ?_; intro g hg w1 hb HB; have XB := Aside0.mk HB; have BK := Aside0.mk hb; obtain ⟨k0, k1, k2, k3, k4, k5, k6⟩ := cells7 hb; clear hg hb HB) | (go_at_call 45; refine (is_c _ _).mono ?_; rintro e w' ⟨rfl, rfl⟩) | (go_at_call 43; refine (refspan_c _ _ _ (by omega) (by omega)).mono ?_; rintro e w' ⟨rfl, rfl⟩) | (go_at_call 44; refine (vals_c 5 a c A cc v t n o _ _ _ (Kd.C_below HV.out XB.out) (m := 1) (by decide)).mono ?_; rintro e w2 ⟨rfl, HB⟩; have XBn := Aside0.mk (below_step XB.out HB); have BKn := Aside0.mk (blk_below BK.out HB); obtain ⟨k0, k1, k2, k3, k4, k5, k6⟩ := cells7 BKn.out; clear HB XB BK; have XB := XBn; have BK := BKn))
     go_ret
     exact ⟨rfl, XB.out⟩
   ·have z2 : (t == 0) = false := by simpa using hz2
    clear hz2
    have HR : Aside0 (chkB 5 a c v t n o = false) := ⟨by simp_all [chkB, wB] <;> (intros; omega)⟩
    rw [HR.out]
    go_enter Try.func20, Try.ntmps20
    go_wp2_with (first | ((with_reducible refine gate_dst (N := 1) rfl ?_); refine bx_ (N := 1) (cs := #[.int .i64 5, .int .i64 a, .int .i64 c, .slice A v.length cc, .int .i64 t, .int .i64 n, .int .i64 o]) (t := 24) ?_; intro g hg w1 hb HB; have XB := Aside0.mk HB; have BK := Aside0.mk hb; obtain ⟨k0, k1, k2, k3, k4, k5, k6⟩ := cells7 hb; clear hg hb HB) | (go_at_call 45; refine (is_c _ _).mono ?_; rintro e w' ⟨rfl, rfl⟩) | (go_at_call 43; refine (refspan_c _ _ _ (by omega) (by omega)).mono ?_; rintro e w' ⟨rfl, rfl⟩) | (go_at_call 44; refine (vals_c 5 a c A cc v t n o _ _ _ (Kd.C_below HV.out XB.out) (m := 1) (by decide)).mono ?_; rintro e w2 ⟨rfl, HB⟩; have XBn := Aside0.mk (below_step XB.out HB); have BKn := Aside0.mk (blk_below BK.out HB); obtain ⟨k0, k1, k2, k3, k4, k5, k6⟩ := cells7 BKn.out; clear HB XB BK; have XB := XBn; have BK := BKn))
    go_ret
    exact ⟨rfl, XB.out⟩
  ·have z1 : (o == 0) = false := by simpa using hz1
   clear hz1
   have HR : Aside0 (chkB 5 a c v t n o = false) := ⟨by simp_all [chkB, wB] <;> (intros; omega)⟩
   rw [HR.out]
   go_enter Try.func20, Try.ntmps20
   go_wp2_with (first | ((with_reducible refine gate_dst (N := 1) rfl ?_); refine bx_ (N := 1) (cs := #[.int .i64 5, .int .i64 a, .int .i64 c, .slice A v.length cc, .int .i64 t, .int .i64 n, .int .i64 o]) (t := 24) ?_; intro g hg w1 hb HB; have XB := Aside0.mk HB; have BK := Aside0.mk hb; obtain ⟨k0, k1, k2, k3, k4, k5, k6⟩ := cells7 hb; clear hg hb HB) | (go_at_call 45; refine (is_c _ _).mono ?_; rintro e w' ⟨rfl, rfl⟩) | (go_at_call 43; refine (refspan_c _ _ _ (by omega) (by omega)).mono ?_; rintro e w' ⟨rfl, rfl⟩) | (go_at_call 44; refine (vals_c 5 a c A cc v t n o _ _ _ (Kd.C_below HV.out XB.out) (m := 1) (by decide)).mono ?_; rintro e w2 ⟨rfl, HB⟩; have XBn := Aside0.mk (below_step XB.out HB); have BKn := Aside0.mk (blk_below BK.out HB); obtain ⟨k0, k1, k2, k3, k4, k5, k6⟩ := cells7 BKn.out; clear HB XB BK; have XB := XBn; have BK := BKn))
   go_ret
   exact ⟨rfl, XB.out⟩
 ·have z0 : (n == 0) = false := by simpa using hz0
  clear hz0
  have HR : Aside0 (chkB 5 a c v t n o = false) := ⟨by simp_all [chkB, wB] <;> (intros; omega)⟩
  rw [HR.out]
  go_enter Try.func20, Try.ntmps20
  go_wp2_with (first | ((with_reducible refine gate_dst (N := 1) rfl ?_); refine bx_ (N := 1) (cs := #[.int .i64 5, .int .i64 a, .int .i64 c, .slice A v.length cc, .int .i64 t, .int .i64 n, .int .i64 o]) (t := 24) ?_; intro g hg w1 hb HB; have XB := Aside0.mk HB; have BK := Aside0.mk hb; obtain ⟨k0, k1, k2, k3, k4, k5, k6⟩ := cells7 hb; clear hg hb HB) | (go_at_call 45; refine (is_c _ _).mono ?_; rintro e w' ⟨rfl, rfl⟩) | (go_at_call 43; refine (refspan_c _ _ _ (by omega) (by omega)).mono ?_; rintro e w' ⟨rfl, rfl⟩) | (go_at_call 44; refine (vals_c 5 a c A cc v t n o _ _ _ (Kd.C_below HV.out XB.out) (m := 1) (by decide)).mono ?_; rintro e w2 ⟨rfl, HB⟩; have XBn := Aside0.mk (below_step XB.out HB); have BKn := Aside0.mk (blk_below BK.out HB); obtain ⟨k0, k1, k2, k3, k4, k5, k6⟩ := cells7 BKn.out; clear HB XB BK; have XB := XBn; have BK := BKn))
  go_ret
  exact ⟨rfl, XB.out⟩
set_option maxHeartbeats 4000000 in
set_option maxRecDepth 100000 in
theorem may_6 (a c : Int) (A : Option Addr) (cc : Nat) (v : List Int) (t n o : Int) (w : World) (hV : Kd.C (Kd.int .i64) w A v.length v) : Calls Try.prog 20 #[.agg #[.int .i64 6, .int .i64 a, .int .i64 c, .slice A v.length cc, .int .i64 t, .int .i64 n, .int .i64 o]] w fun e w' => e = .returned (.bool (chkB 6 a c v t n o)) ∧ Below w.heap.size w w' := by
 have HV := Aside0.mk hV; clear hV
 by_cases hz0 : (n == 0) = true
 ·have z0 : (n == 0) = true := hz0; clear hz0
  by_cases hz1 : (o == 0) = true
  ·have z1 : (o == 0) = true := hz1; clear hz1
   by_cases hz2 : (t == 0) = true
   ·have z2 : (t == 0) = true := hz2; clear hz2
    by_cases hz3 : (c == 0) = true
    ·have z3 : (c == 0) = true := hz3; clear hz3
     by_cases hz4 : smB 1 1 65535 v = true
     ·have z4 : smB 1 1 65535 v = true := hz4; clear hz4; have pz4 := smB_len z4
      by_cases hz5 : spB a 1 = true
      ·have z5 : spB a 1 = true := hz5; clear hz5
       have HR : Aside0 (chkB 6 a c v t n o = true) := ⟨by simp_all [chkB, wB] <;> (intros; omega)⟩
       rw [HR.out]
       go_enter Try.func20, Try.ntmps20
       go_wp2_with (first | ((with_reducible refine gate_dst (N := 1) rfl ?_); refine bx_ (N := 1) (cs := #[.int .i64 6, .int .i64 a, .int .i64 c, .slice A v.length cc, .int .i64 t, .int .i64 n, .int .i64 o]) (t := 24) ?_; intro g hg w1 hb HB; have XB := Aside0.mk HB; have BK := Aside0.mk hb; obtain ⟨k0, k1, k2, k3, k4, k5, k6⟩ := cells7 hb; clear hg hb HB) | (go_at_call 45; refine (is_c _ _).mono ?_; rintro e w' ⟨rfl, rfl⟩) | (go_at_call 43; refine (refspan_c _ _ _ (by omega) (by omega)).mono ?_; rintro e w' ⟨rfl, rfl⟩) | (go_at_call 44; refine (vals_c 6 a c A cc v t n o _ _ _ (Kd.C_below HV.out XB.out) (m := 65535) (by decide)).mono ?_; rintro e w2 ⟨rfl, HB⟩; have XBn := Aside0.mk (below_step XB.out HB); have BKn := Aside0.mk (blk_below BK.out HB); obtain ⟨k0, k1, k2, k3, k4, k5, k6⟩ := cells7 BKn.out; clear HB XB BK; have XB := XBn; have BK := BKn))
       go_ret
       exact ⟨rfl, XB.out⟩
      ·have z5 : spB a 1 = false := by simpa using hz5
       clear hz5
       have HR : Aside0 (chkB 6 a c v t n o = false) := ⟨by simp_all [chkB, wB] <;> (intros; omega)⟩
       rw [HR.out]
       go_enter Try.func20, Try.ntmps20
       go_wp2_with (first | ((with_reducible refine gate_dst (N := 1) rfl ?_); refine bx_ (N := 1) (cs := #[.int .i64 6, .int .i64 a, .int .i64 c, .slice A v.length cc, .int .i64 t, .int .i64 n, .int .i64 o]) (t := 24) ?_; intro g hg w1 hb HB; have XB := Aside0.mk HB; have BK := Aside0.mk hb; obtain ⟨k0, k1, k2, k3, k4, k5, k6⟩ := cells7 hb; clear hg hb HB) | (go_at_call 45; refine (is_c _ _).mono ?_; rintro e w' ⟨rfl, rfl⟩) | (go_at_call 43; refine (refspan_c _ _ _ (by omega) (by omega)).mono ?_; rintro e w' ⟨rfl, rfl⟩) | (go_at_call 44; refine (vals_c 6 a c A cc v t n o _ _ _ (Kd.C_below HV.out XB.out) (m := 65535) (by decide)).mono ?_; rintro e w2 ⟨rfl, HB⟩; have XBn := Aside0.mk (below_step XB.out HB); have BKn := Aside0.mk (blk_below BK.out HB); obtain ⟨k0, k1, k2, k3, k4, k5, k6⟩ := cells7 BKn.out; clear HB XB BK; have XB := XBn; have BK := BKn))
       go_ret
       exact ⟨rfl, XB.out⟩
     ·have z4 : smB 1 1 65535 v = false := by simpa using hz4
      clear hz4
      have HR : Aside0 (chkB 6 a c v t n o = false) := ⟨by simp_all [chkB, wB] <;> (intros; omega)⟩
      rw [HR.out]
      go_enter Try.func20, Try.ntmps20
      go_wp2_with (first | ((with_reducible refine gate_dst (N := 1) rfl ?_); refine bx_ (N := 1) (cs := #[.int .i64 6, .int .i64 a, .int .i64 c, .slice A v.length cc, .int .i64 t, .int .i64 n, .int .i64 o]) (t := 24) ?_; intro g hg w1 hb HB; have XB := Aside0.mk HB; have BK := Aside0.mk hb; obtain ⟨k0, k1, k2, k3, k4, k5, k6⟩ := cells7 hb; clear hg hb HB) | (go_at_call 45; refine (is_c _ _).mono ?_; rintro e w' ⟨rfl, rfl⟩) | (go_at_call 43; refine (refspan_c _ _ _ (by omega) (by omega)).mono ?_; rintro e w' ⟨rfl, rfl⟩) | (go_at_call 44; refine (vals_c 6 a c A cc v t n o _ _ _ (Kd.C_below HV.out XB.out) (m := 65535) (by decide)).mono ?_; rintro e w2 ⟨rfl, HB⟩; have XBn := Aside0.mk (below_step XB.out HB); have BKn := Aside0.mk (blk_below BK.out HB); obtain ⟨k0, k1, k2, k3, k4, k5, k6⟩ := cells7 BKn.out; clear HB XB BK; have XB := XBn; have BK := BKn))
      go_ret
      exact ⟨rfl, XB.out⟩
    ·have z3 : (c == 0) = false := by simpa using hz3
     clear hz3
     have HR : Aside0 (chkB 6 a c v t n o = false) := ⟨by simp_all [chkB, wB] <;> (intros; omega)⟩
     rw [HR.out]
     go_enter Try.func20, Try.ntmps20
     go_wp2_with (first | ((with_reducible refine gate_dst (N := 1) rfl ?_); refine bx_ (N := 1) (cs := #[.int .i64 6, .int .i64 a, .int .i64 c, .slice A v.length cc, .int .i64 t, .int .i64 n, .int .i64 o]) (t := 24) ?_; intro g hg w1 hb HB; have XB := Aside0.mk HB; have BK := Aside0.mk hb; obtain ⟨k0, k1, k2, k3, k4, k5, k6⟩ := cells7 hb; clear hg hb HB) | (go_at_call 45; refine (is_c _ _).mono ?_; rintro e w' ⟨rfl, rfl⟩) | (go_at_call 43; refine (refspan_c _ _ _ (by omega) (by omega)).mono ?_; rintro e w' ⟨rfl, rfl⟩) | (go_at_call 44; refine (vals_c 6 a c A cc v t n o _ _ _ (Kd.C_below HV.out XB.out) (m := 65535) (by decide)).mono ?_; rintro e w2 ⟨rfl, HB⟩; have XBn := Aside0.mk (below_step XB.out HB); have BKn := Aside0.mk (blk_below BK.out HB); obtain ⟨k0, k1, k2, k3, k4, k5, k6⟩ := cells7 BKn.out; clear HB XB BK; have XB := XBn; have BK := BKn))
     go_ret
     exact ⟨rfl, XB.out⟩
   ·have z2 : (t == 0) = false := by simpa using hz2
    clear hz2
    have HR : Aside0 (chkB 6 a c v t n o = false) := ⟨by simp_all [chkB, wB] <;> (intros; omega)⟩
    rw [HR.out]
    go_enter Try.func20, Try.ntmps20
    go_wp2_with (first | ((with_reducible refine gate_dst (N := 1) rfl ?_); refine bx_ (N := 1) (cs := #[.int .i64 6, .int .i64 a, .int .i64 c, .slice A v.length cc, .int .i64 t, .int .i64 n, .int .i64 o]) (t := 24) ?_; intro g hg w1 hb HB; have XB := Aside0.mk HB; have BK := Aside0.mk hb; obtain ⟨k0, k1, k2, k3, k4, k5, k6⟩ := cells7 hb; clear hg hb HB) | (go_at_call 45; refine (is_c _ _).mono ?_; rintro e w' ⟨rfl, rfl⟩) | (go_at_call 43; refine (refspan_c _ _ _ (by omega) (by omega)).mono ?_; rintro e w' ⟨rfl, rfl⟩) | (go_at_call 44; refine (vals_c 6 a c A cc v t n o _ _ _ (Kd.C_below HV.out XB.out) (m := 65535) (by decide)).mono ?_; rintro e w2 ⟨rfl, HB⟩; have XBn := Aside0.mk (below_step XB.out HB); have BKn := Aside0.mk (blk_below BK.out HB); obtain ⟨k0, k1, k2, k3, k4, k5, k6⟩ := cells7 BKn.out; clear HB XB BK; have XB := XBn; have BK := BKn))
    go_ret
    exact ⟨rfl, XB.out⟩
  ·have z1 : (o == 0) = false := by simpa using hz1
   clear hz1
   have HR : Aside0 (chkB 6 a c v t n o = false) := ⟨by simp_all [chkB, wB] <;> (intros; omega)⟩
   rw [HR.out]
   go_enter Try.func20, Try.ntmps20
   go_wp2_with (first | ((with_reducible refine gate_dst (N := 1) rfl ?_); refine bx_ (N := 1) (cs := #[.int .i64 6, .int .i64 a, .int .i64 c, .slice A v.length cc, .int .i64 t, .int .i64 n, .int .i64 o]) (t := 24) ?_; intro g hg w1 hb HB; have XB := Aside0.mk HB; have BK := Aside0.mk hb; obtain ⟨k0, k1, k2, k3, k4, k5, k6⟩ := cells7 hb; clear hg hb HB) | (go_at_call 45; refine (is_c _ _).mono ?_; rintro e w' ⟨rfl, rfl⟩) | (go_at_call 43; refine (refspan_c _ _ _ (by omega) (by omega)).mono ?_; rintro e w' ⟨rfl, rfl⟩) | (go_at_call 44; refine (vals_c 6 a c A cc v t n o _ _ _ (Kd.C_below HV.out XB.out) (m := 65535) (by decide)).mono ?_; rintro e w2 ⟨rfl, HB⟩; have XBn := Aside0.mk (below_step XB.out HB); have BKn := Aside0.mk (blk_below BK.out HB); obtain ⟨k0, k1, k2, k3, k4, k5, k6⟩ := cells7 BKn.out; clear HB XB BK; have XB := XBn; have BK := BKn))
   go_ret
   exact ⟨rfl, XB.out⟩
 ·have z0 : (n == 0) = false := by simpa using hz0
  clear hz0
  have HR : Aside0 (chkB 6 a c v t n o = false) := ⟨by simp_all [chkB, wB] <;> (intros; omega)⟩
  rw [HR.out]
  go_enter Try.func20, Try.ntmps20
  go_wp2_with (first | ((with_reducible refine gate_dst (N := 1) rfl ?_); refine bx_ (N := 1) (cs := #[.int .i64 6, .int .i64 a, .int .i64 c, .slice A v.length cc, .int .i64 t, .int .i64 n, .int .i64 o]) (t := 24) ?_; intro g hg w1 hb HB; have XB := Aside0.mk HB; have BK := Aside0.mk hb; obtain ⟨k0, k1, k2, k3, k4, k5, k6⟩ := cells7 hb; clear hg hb HB) | (go_at_call 45; refine (is_c _ _).mono ?_; rintro e w' ⟨rfl, rfl⟩) | (go_at_call 43; refine (refspan_c _ _ _ (by omega) (by omega)).mono ?_; rintro e w' ⟨rfl, rfl⟩) | (go_at_call 44; refine (vals_c 6 a c A cc v t n o _ _ _ (Kd.C_below HV.out XB.out) (m := 65535) (by decide)).mono ?_; rintro e w2 ⟨rfl, HB⟩; have XBn := Aside0.mk (below_step XB.out HB); have BKn := Aside0.mk (blk_below BK.out HB); obtain ⟨k0, k1, k2, k3, k4, k5, k6⟩ := cells7 BKn.out; clear HB XB BK; have XB := XBn; have BK := BKn))
  go_ret
  exact ⟨rfl, XB.out⟩
end Go.Proofs.Ytocicifgglkaeaa.Chk
end

section
namespace Go.Proofs.Ytocicifgglkaeaa.Chk
open Go.RowKit Go.Proofs.YtocicifgglkaeaaW.PrintWords Go.Proofs.YtocicifgglkaeaaW.PrintLast Go.Proofs.YtocicifgglkaeaaW.PrintMore Go.Proofs.Ytocicifgglkaeaa.Core Go.Proofs.Ytocicifgglkaeaa.Wk
set_option linter.unusedVariables false
set_option linter.unusedSimpArgs false
set_option maxHeartbeats 4000000 in
set_option maxRecDepth 100000 in
theorem may_15 (a c : Int) (A : Option Addr) (cc : Nat) (v : List Int) (t n o : Int) (w : World) (hV : Kd.C (Kd.int .i64) w A v.length v) : Calls Try.prog 20 #[.agg #[.int .i64 15, .int .i64 a, .int .i64 c, .slice A v.length cc, .int .i64 t, .int .i64 n, .int .i64 o]] w fun e w' => e = .returned (.bool (chkB 15 a c v t n o)) ∧ Below w.heap.size w w' := by
 have HV := Aside0.mk hV; clear hV
 by_cases hz0 : (n == 0) = true
 ·have z0 : (n == 0) = true := hz0; clear hz0
  by_cases hz1 : (o == 0) = true
  ·have z1 : (o == 0) = true := hz1; clear hz1
   by_cases hz2 : (t == 0) = true
   ·have z2 : (t == 0) = true := hz2; clear hz2
    by_cases hz3 : (c == (v.length : Int)) = true
    ·have z3 : (c == (v.length : Int)) = true := hz3; clear hz3
     by_cases hz4 : smB 1 1968 1 v = true
     ·have z4 : smB 1 1968 1 v = true := hz4; clear hz4; have pz4 := smB_len z4
      by_cases hz5 : spB a v.length = true
      ·have z5 : spB a v.length = true := hz5; clear hz5
       have HR : Aside0 (chkB 15 a c v t n o = true) := ⟨by simp_all [chkB, wB] <;> (intros; omega)⟩
       rw [HR.out]
       go_enter Try.func20, Try.ntmps20
       go_wp2_with (first | ((with_reducible refine gate_dst (N := 1) rfl ?_); refine bx_ (N := 1) (cs := #[.int .i64 15, .int .i64 a, .int .i64 c, .slice A v.length cc, .int .i64 t, .int .i64 n, .int .i64 o]) (t := 24) ?_; intro g hg w1 hb HB; have XB := Aside0.mk HB; have BK := Aside0.mk hb; obtain ⟨k0, k1, k2, k3, k4, k5, k6⟩ := cells7 hb; clear hg hb HB) | (go_at_call 45; refine (is_c _ _).mono ?_; rintro e w' ⟨rfl, rfl⟩) | (go_at_call 43; refine (refspan_c _ _ _ (by omega) (by omega)).mono ?_; rintro e w' ⟨rfl, rfl⟩) | (go_at_call 44; refine (vals_c 15 a c A cc v t n o _ _ _ (Kd.C_below HV.out XB.out) (m := 1) (by decide)).mono ?_; rintro e w2 ⟨rfl, HB⟩; have XBn := Aside0.mk (below_step XB.out HB); have BKn := Aside0.mk (blk_below BK.out HB); obtain ⟨k0, k1, k2, k3, k4, k5, k6⟩ := cells7 BKn.out; clear HB XB BK; have XB := XBn; have BK := BKn))
       go_ret
       exact ⟨rfl, XB.out⟩
      ·have z5 : spB a v.length = false := by simpa using hz5
       clear hz5
       have HR : Aside0 (chkB 15 a c v t n o = false) := ⟨by simp_all [chkB, wB] <;> (intros; omega)⟩
       rw [HR.out]
       go_enter Try.func20, Try.ntmps20
       go_wp2_with (first | ((with_reducible refine gate_dst (N := 1) rfl ?_); refine bx_ (N := 1) (cs := #[.int .i64 15, .int .i64 a, .int .i64 c, .slice A v.length cc, .int .i64 t, .int .i64 n, .int .i64 o]) (t := 24) ?_; intro g hg w1 hb HB; have XB := Aside0.mk HB; have BK := Aside0.mk hb; obtain ⟨k0, k1, k2, k3, k4, k5, k6⟩ := cells7 hb; clear hg hb HB) | (go_at_call 45; refine (is_c _ _).mono ?_; rintro e w' ⟨rfl, rfl⟩) | (go_at_call 43; refine (refspan_c _ _ _ (by omega) (by omega)).mono ?_; rintro e w' ⟨rfl, rfl⟩) | (go_at_call 44; refine (vals_c 15 a c A cc v t n o _ _ _ (Kd.C_below HV.out XB.out) (m := 1) (by decide)).mono ?_; rintro e w2 ⟨rfl, HB⟩; have XBn := Aside0.mk (below_step XB.out HB); have BKn := Aside0.mk (blk_below BK.out HB); obtain ⟨k0, k1, k2, k3, k4, k5, k6⟩ := cells7 BKn.out; clear HB XB BK; have XB := XBn; have BK := BKn))
       go_ret
       exact ⟨rfl, XB.out⟩
     ·have z4 : smB 1 1968 1 v = false := by simpa using hz4
      clear hz4
      have HR : Aside0 (chkB 15 a c v t n o = false) := ⟨by simp_all [chkB, wB] <;> (intros; omega)⟩
      rw [HR.out]
      go_enter Try.func20, Try.ntmps20
      go_wp2_with (first | ((with_reducible refine gate_dst (N := 1) rfl ?_); refine bx_ (N := 1) (cs := #[.int .i64 15, .int .i64 a, .int .i64 c, .slice A v.length cc, .int .i64 t, .int .i64 n, .int .i64 o]) (t := 24) ?_; intro g hg w1 hb HB; have XB := Aside0.mk HB; have BK := Aside0.mk hb; obtain ⟨k0, k1, k2, k3, k4, k5, k6⟩ := cells7 hb; clear hg hb HB) | (go_at_call 45; refine (is_c _ _).mono ?_; rintro e w' ⟨rfl, rfl⟩) | (go_at_call 43; refine (refspan_c _ _ _ (by omega) (by omega)).mono ?_; rintro e w' ⟨rfl, rfl⟩) | (go_at_call 44; refine (vals_c 15 a c A cc v t n o _ _ _ (Kd.C_below HV.out XB.out) (m := 1) (by decide)).mono ?_; rintro e w2 ⟨rfl, HB⟩; have XBn := Aside0.mk (below_step XB.out HB); have BKn := Aside0.mk (blk_below BK.out HB); obtain ⟨k0, k1, k2, k3, k4, k5, k6⟩ := cells7 BKn.out; clear HB XB BK; have XB := XBn; have BK := BKn))
      go_ret
      exact ⟨rfl, XB.out⟩
    ·have z3 : (c == (v.length : Int)) = false := by simpa using hz3
     clear hz3
     have HR : Aside0 (chkB 15 a c v t n o = false) := ⟨by simp_all [chkB, wB] <;> (intros; omega)⟩
     rw [HR.out]
     go_enter Try.func20, Try.ntmps20
     go_wp2_with (first | ((with_reducible refine gate_dst (N := 1) rfl ?_); refine bx_ (N := 1) (cs := #[.int .i64 15, .int .i64 a, .int .i64 c, .slice A v.length cc, .int .i64 t, .int .i64 n, .int .i64 o]) (t := 24) ?_; intro g hg w1 hb HB; have XB := Aside0.mk HB; have BK := Aside0.mk hb; obtain ⟨k0, k1, k2, k3, k4, k5, k6⟩ := cells7 hb; clear hg hb HB) | (go_at_call 45; refine (is_c _ _).mono ?_; rintro e w' ⟨rfl, rfl⟩) | (go_at_call 43; refine (refspan_c _ _ _ (by omega) (by omega)).mono ?_; rintro e w' ⟨rfl, rfl⟩) | (go_at_call 44; refine (vals_c 15 a c A cc v t n o _ _ _ (Kd.C_below HV.out XB.out) (m := 1) (by decide)).mono ?_; rintro e w2 ⟨rfl, HB⟩; have XBn := Aside0.mk (below_step XB.out HB); have BKn := Aside0.mk (blk_below BK.out HB); obtain ⟨k0, k1, k2, k3, k4, k5, k6⟩ := cells7 BKn.out; clear HB XB BK; have XB := XBn; have BK := BKn))
     go_ret
     exact ⟨rfl, XB.out⟩
   ·have z2 : (t == 0) = false := by simpa using hz2
    clear hz2
    have HR : Aside0 (chkB 15 a c v t n o = false) := ⟨by simp_all [chkB, wB] <;> (intros; omega)⟩
    rw [HR.out]
    go_enter Try.func20, Try.ntmps20
    go_wp2_with (first | ((with_reducible refine gate_dst (N := 1) rfl ?_); refine bx_ (N := 1) (cs := #[.int .i64 15, .int .i64 a, .int .i64 c, .slice A v.length cc, .int .i64 t, .int .i64 n, .int .i64 o]) (t := 24) ?_; intro g hg w1 hb HB; have XB := Aside0.mk HB; have BK := Aside0.mk hb; obtain ⟨k0, k1, k2, k3, k4, k5, k6⟩ := cells7 hb; clear hg hb HB) | (go_at_call 45; refine (is_c _ _).mono ?_; rintro e w' ⟨rfl, rfl⟩) | (go_at_call 43; refine (refspan_c _ _ _ (by omega) (by omega)).mono ?_; rintro e w' ⟨rfl, rfl⟩) | (go_at_call 44; refine (vals_c 15 a c A cc v t n o _ _ _ (Kd.C_below HV.out XB.out) (m := 1) (by decide)).mono ?_; rintro e w2 ⟨rfl, HB⟩; have XBn := Aside0.mk (below_step XB.out HB); have BKn := Aside0.mk (blk_below BK.out HB); obtain ⟨k0, k1, k2, k3, k4, k5, k6⟩ := cells7 BKn.out; clear HB XB BK; have XB := XBn; have BK := BKn))
    go_ret
    exact ⟨rfl, XB.out⟩
  ·have z1 : (o == 0) = false := by simpa using hz1
   clear hz1
   have HR : Aside0 (chkB 15 a c v t n o = false) := ⟨by simp_all [chkB, wB] <;> (intros; omega)⟩
   rw [HR.out]
   go_enter Try.func20, Try.ntmps20
   go_wp2_with (first | ((with_reducible refine gate_dst (N := 1) rfl ?_); refine bx_ (N := 1) (cs := #[.int .i64 15, .int .i64 a, .int .i64 c, .slice A v.length cc, .int .i64 t, .int .i64 n, .int .i64 o]) (t := 24) ?_; intro g hg w1 hb HB; have XB := Aside0.mk HB; have BK := Aside0.mk hb; obtain ⟨k0, k1, k2, k3, k4, k5, k6⟩ := cells7 hb; clear hg hb HB) | (go_at_call 45; refine (is_c _ _).mono ?_; rintro e w' ⟨rfl, rfl⟩) | (go_at_call 43; refine (refspan_c _ _ _ (by omega) (by omega)).mono ?_; rintro e w' ⟨rfl, rfl⟩) | (go_at_call 44; refine (vals_c 15 a c A cc v t n o _ _ _ (Kd.C_below HV.out XB.out) (m := 1) (by decide)).mono ?_; rintro e w2 ⟨rfl, HB⟩; have XBn := Aside0.mk (below_step XB.out HB); have BKn := Aside0.mk (blk_below BK.out HB); obtain ⟨k0, k1, k2, k3, k4, k5, k6⟩ := cells7 BKn.out; clear HB XB BK; have XB := XBn; have BK := BKn))
   go_ret
   exact ⟨rfl, XB.out⟩
 ·have z0 : (n == 0) = false := by simpa using hz0
  clear hz0
  have HR : Aside0 (chkB 15 a c v t n o = false) := ⟨by simp_all [chkB, wB] <;> (intros; omega)⟩
  rw [HR.out]
  go_enter Try.func20, Try.ntmps20
  go_wp2_with (first | ((with_reducible refine gate_dst (N := 1) rfl ?_); refine bx_ (N := 1) (cs := #[.int .i64 15, .int .i64 a, .int .i64 c, .slice A v.length cc, .int .i64 t, .int .i64 n, .int .i64 o]) (t := 24) ?_; intro g hg w1 hb HB; have XB := Aside0.mk HB; have BK := Aside0.mk hb; obtain ⟨k0, k1, k2, k3, k4, k5, k6⟩ := cells7 hb; clear hg hb HB) | (go_at_call 45; refine (is_c _ _).mono ?_; rintro e w' ⟨rfl, rfl⟩) | (go_at_call 43; refine (refspan_c _ _ _ (by omega) (by omega)).mono ?_; rintro e w' ⟨rfl, rfl⟩) | (go_at_call 44; refine (vals_c 15 a c A cc v t n o _ _ _ (Kd.C_below HV.out XB.out) (m := 1) (by decide)).mono ?_; rintro e w2 ⟨rfl, HB⟩; have XBn := Aside0.mk (below_step XB.out HB); have BKn := Aside0.mk (blk_below BK.out HB); obtain ⟨k0, k1, k2, k3, k4, k5, k6⟩ := cells7 BKn.out; clear HB XB BK; have XB := XBn; have BK := BKn))
  go_ret
  exact ⟨rfl, XB.out⟩
set_option maxHeartbeats 4000000 in
set_option maxRecDepth 100000 in
theorem may_16 (a c : Int) (A : Option Addr) (cc : Nat) (v : List Int) (t n o : Int) (w : World) (hV : Kd.C (Kd.int .i64) w A v.length v) : Calls Try.prog 20 #[.agg #[.int .i64 16, .int .i64 a, .int .i64 c, .slice A v.length cc, .int .i64 t, .int .i64 n, .int .i64 o]] w fun e w' => e = .returned (.bool (chkB 16 a c v t n o)) ∧ Below w.heap.size w w' := by
 have HV := Aside0.mk hV; clear hV
 by_cases hz0 : (n == 0) = true
 ·have z0 : (n == 0) = true := hz0; clear hz0
  by_cases hz1 : (o == 0) = true
  ·have z1 : (o == 0) = true := hz1; clear hz1
   by_cases hz2 : (t == 0) = true
   ·have z2 : (t == 0) = true := hz2; clear hz2
    by_cases hz3 : (c == (v.length : Int)) = true
    ·have z3 : (c == (v.length : Int)) = true := hz3; clear hz3
     by_cases hz4 : smB 1 123 65535 v = true
     ·have z4 : smB 1 123 65535 v = true := hz4; clear hz4; have pz4 := smB_len z4
      by_cases hz5 : spB a v.length = true
      ·have z5 : spB a v.length = true := hz5; clear hz5
       have HR : Aside0 (chkB 16 a c v t n o = true) := ⟨by simp_all [chkB, wB] <;> (intros; omega)⟩
       rw [HR.out]
       go_enter Try.func20, Try.ntmps20
       go_wp2_with (first | ((with_reducible refine gate_dst (N := 1) rfl ?_); refine bx_ (N := 1) (cs := #[.int .i64 16, .int .i64 a, .int .i64 c, .slice A v.length cc, .int .i64 t, .int .i64 n, .int .i64 o]) (t := 24) ?_; intro g hg w1 hb HB; have XB := Aside0.mk HB; have BK := Aside0.mk hb; obtain ⟨k0, k1, k2, k3, k4, k5, k6⟩ := cells7 hb; clear hg hb HB) | (go_at_call 45; refine (is_c _ _).mono ?_; rintro e w' ⟨rfl, rfl⟩) | (go_at_call 43; refine (refspan_c _ _ _ (by omega) (by omega)).mono ?_; rintro e w' ⟨rfl, rfl⟩) | (go_at_call 44; refine (vals_c 16 a c A cc v t n o _ _ _ (Kd.C_below HV.out XB.out) (m := 65535) (by decide)).mono ?_; rintro e w2 ⟨rfl, HB⟩; have XBn := Aside0.mk (below_step XB.out HB); have BKn := Aside0.mk (blk_below BK.out HB); obtain ⟨k0, k1, k2, k3, k4, k5, k6⟩ := cells7 BKn.out; clear HB XB BK; have XB := XBn; have BK := BKn))
       go_ret
       exact ⟨rfl, XB.out⟩
      ·have z5 : spB a v.length = false := by simpa using hz5
       clear hz5
       have HR : Aside0 (chkB 16 a c v t n o = false) := ⟨by simp_all [chkB, wB] <;> (intros; omega)⟩
       rw [HR.out]
       go_enter Try.func20, Try.ntmps20
       go_wp2_with (first | ((with_reducible refine gate_dst (N := 1) rfl ?_); refine bx_ (N := 1) (cs := #[.int .i64 16, .int .i64 a, .int .i64 c, .slice A v.length cc, .int .i64 t, .int .i64 n, .int .i64 o]) (t := 24) ?_; intro g hg w1 hb HB; have XB := Aside0.mk HB; have BK := Aside0.mk hb; obtain ⟨k0, k1, k2, k3, k4, k5, k6⟩ := cells7 hb; clear hg hb HB) | (go_at_call 45; refine (is_c _ _).mono ?_; rintro e w' ⟨rfl, rfl⟩) | (go_at_call 43; refine (refspan_c _ _ _ (by omega) (by omega)).mono ?_; rintro e w' ⟨rfl, rfl⟩) | (go_at_call 44; refine (vals_c 16 a c A cc v t n o _ _ _ (Kd.C_below HV.out XB.out) (m := 65535) (by decide)).mono ?_; rintro e w2 ⟨rfl, HB⟩; have XBn := Aside0.mk (below_step XB.out HB); have BKn := Aside0.mk (blk_below BK.out HB); obtain ⟨k0, k1, k2, k3, k4, k5, k6⟩ := cells7 BKn.out; clear HB XB BK; have XB := XBn; have BK := BKn))
       go_ret
       exact ⟨rfl, XB.out⟩
     ·have z4 : smB 1 123 65535 v = false := by simpa using hz4
      clear hz4
      have HR : Aside0 (chkB 16 a c v t n o = false) := ⟨by simp_all [chkB, wB] <;> (intros; omega)⟩
      rw [HR.out]
      go_enter Try.func20, Try.ntmps20
      go_wp2_with (first | ((with_reducible refine gate_dst (N := 1) rfl ?_); refine bx_ (N := 1) (cs := #[.int .i64 16, .int .i64 a, .int .i64 c, .slice A v.length cc, .int .i64 t, .int .i64 n, .int .i64 o]) (t := 24) ?_; intro g hg w1 hb HB; have XB := Aside0.mk HB; have BK := Aside0.mk hb; obtain ⟨k0, k1, k2, k3, k4, k5, k6⟩ := cells7 hb; clear hg hb HB) | (go_at_call 45; refine (is_c _ _).mono ?_; rintro e w' ⟨rfl, rfl⟩) | (go_at_call 43; refine (refspan_c _ _ _ (by omega) (by omega)).mono ?_; rintro e w' ⟨rfl, rfl⟩) | (go_at_call 44; refine (vals_c 16 a c A cc v t n o _ _ _ (Kd.C_below HV.out XB.out) (m := 65535) (by decide)).mono ?_; rintro e w2 ⟨rfl, HB⟩; have XBn := Aside0.mk (below_step XB.out HB); have BKn := Aside0.mk (blk_below BK.out HB); obtain ⟨k0, k1, k2, k3, k4, k5, k6⟩ := cells7 BKn.out; clear HB XB BK; have XB := XBn; have BK := BKn))
      go_ret
      exact ⟨rfl, XB.out⟩
    ·have z3 : (c == (v.length : Int)) = false := by simpa using hz3
     clear hz3
     have HR : Aside0 (chkB 16 a c v t n o = false) := ⟨by simp_all [chkB, wB] <;> (intros; omega)⟩
     rw [HR.out]
     go_enter Try.func20, Try.ntmps20
     go_wp2_with (first | ((with_reducible refine gate_dst (N := 1) rfl ?_); refine bx_ (N := 1) (cs := #[.int .i64 16, .int .i64 a, .int .i64 c, .slice A v.length cc, .int .i64 t, .int .i64 n, .int .i64 o]) (t := 24) ?_; intro g hg w1 hb HB; have XB := Aside0.mk HB; have BK := Aside0.mk hb; obtain ⟨k0, k1, k2, k3, k4, k5, k6⟩ := cells7 hb; clear hg hb HB) | (go_at_call 45; refine (is_c _ _).mono ?_; rintro e w' ⟨rfl, rfl⟩) | (go_at_call 43; refine (refspan_c _ _ _ (by omega) (by omega)).mono ?_; rintro e w' ⟨rfl, rfl⟩) | (go_at_call 44; refine (vals_c 16 a c A cc v t n o _ _ _ (Kd.C_below HV.out XB.out) (m := 65535) (by decide)).mono ?_; rintro e w2 ⟨rfl, HB⟩; have XBn := Aside0.mk (below_step XB.out HB); have BKn := Aside0.mk (blk_below BK.out HB); obtain ⟨k0, k1, k2, k3, k4, k5, k6⟩ := cells7 BKn.out; clear HB XB BK; have XB := XBn; have BK := BKn))
     go_ret
     exact ⟨rfl, XB.out⟩
   ·have z2 : (t == 0) = false := by simpa using hz2
    clear hz2
    have HR : Aside0 (chkB 16 a c v t n o = false) := ⟨by simp_all [chkB, wB] <;> (intros; omega)⟩
    rw [HR.out]
    go_enter Try.func20, Try.ntmps20
    go_wp2_with (first | ((with_reducible refine gate_dst (N := 1) rfl ?_); refine bx_ (N := 1) (cs := #[.int .i64 16, .int .i64 a, .int .i64 c, .slice A v.length cc, .int .i64 t, .int .i64 n, .int .i64 o]) (t := 24) ?_; intro g hg w1 hb HB; have XB := Aside0.mk HB; have BK := Aside0.mk hb; obtain ⟨k0, k1, k2, k3, k4, k5, k6⟩ := cells7 hb; clear hg hb HB) | (go_at_call 45; refine (is_c _ _).mono ?_; rintro e w' ⟨rfl, rfl⟩) | (go_at_call 43; refine (refspan_c _ _ _ (by omega) (by omega)).mono ?_; rintro e w' ⟨rfl, rfl⟩) | (go_at_call 44; refine (vals_c 16 a c A cc v t n o _ _ _ (Kd.C_below HV.out XB.out) (m := 65535) (by decide)).mono ?_; rintro e w2 ⟨rfl, HB⟩; have XBn := Aside0.mk (below_step XB.out HB); have BKn := Aside0.mk (blk_below BK.out HB); obtain ⟨k0, k1, k2, k3, k4, k5, k6⟩ := cells7 BKn.out; clear HB XB BK; have XB := XBn; have BK := BKn))
    go_ret
    exact ⟨rfl, XB.out⟩
  ·have z1 : (o == 0) = false := by simpa using hz1
   clear hz1
   have HR : Aside0 (chkB 16 a c v t n o = false) := ⟨by simp_all [chkB, wB] <;> (intros; omega)⟩
   rw [HR.out]
   go_enter Try.func20, Try.ntmps20
   go_wp2_with (first | ((with_reducible refine gate_dst (N := 1) rfl ?_); refine bx_ (N := 1) (cs := #[.int .i64 16, .int .i64 a, .int .i64 c, .slice A v.length cc, .int .i64 t, .int .i64 n, .int .i64 o]) (t := 24) ?_; intro g hg w1 hb HB; have XB := Aside0.mk HB; have BK := Aside0.mk hb; obtain ⟨k0, k1, k2, k3, k4, k5, k6⟩ := cells7 hb; clear hg hb HB) | (go_at_call 45; refine (is_c _ _).mono ?_; rintro e w' ⟨rfl, rfl⟩) | (go_at_call 43; refine (refspan_c _ _ _ (by omega) (by omega)).mono ?_; rintro e w' ⟨rfl, rfl⟩) | (go_at_call 44; refine (vals_c 16 a c A cc v t n o _ _ _ (Kd.C_below HV.out XB.out) (m := 65535) (by decide)).mono ?_; rintro e w2 ⟨rfl, HB⟩; have XBn := Aside0.mk (below_step XB.out HB); have BKn := Aside0.mk (blk_below BK.out HB); obtain ⟨k0, k1, k2, k3, k4, k5, k6⟩ := cells7 BKn.out; clear HB XB BK; have XB := XBn; have BK := BKn))
   go_ret
   exact ⟨rfl, XB.out⟩
 ·have z0 : (n == 0) = false := by simpa using hz0
  clear hz0
  have HR : Aside0 (chkB 16 a c v t n o = false) := ⟨by simp_all [chkB, wB] <;> (intros; omega)⟩
  rw [HR.out]
  go_enter Try.func20, Try.ntmps20
  go_wp2_with (first | ((with_reducible refine gate_dst (N := 1) rfl ?_); refine bx_ (N := 1) (cs := #[.int .i64 16, .int .i64 a, .int .i64 c, .slice A v.length cc, .int .i64 t, .int .i64 n, .int .i64 o]) (t := 24) ?_; intro g hg w1 hb HB; have XB := Aside0.mk HB; have BK := Aside0.mk hb; obtain ⟨k0, k1, k2, k3, k4, k5, k6⟩ := cells7 hb; clear hg hb HB) | (go_at_call 45; refine (is_c _ _).mono ?_; rintro e w' ⟨rfl, rfl⟩) | (go_at_call 43; refine (refspan_c _ _ _ (by omega) (by omega)).mono ?_; rintro e w' ⟨rfl, rfl⟩) | (go_at_call 44; refine (vals_c 16 a c A cc v t n o _ _ _ (Kd.C_below HV.out XB.out) (m := 65535) (by decide)).mono ?_; rintro e w2 ⟨rfl, HB⟩; have XBn := Aside0.mk (below_step XB.out HB); have BKn := Aside0.mk (blk_below BK.out HB); obtain ⟨k0, k1, k2, k3, k4, k5, k6⟩ := cells7 BKn.out; clear HB XB BK; have XB := XBn; have BK := BKn))
  go_ret
  exact ⟨rfl, XB.out⟩
end Go.Proofs.Ytocicifgglkaeaa.Chk
end

section
namespace Go.Proofs.Ytocicifgglkaeaa.Chk
open Go.RowKit Go.Proofs.YtocicifgglkaeaaW.PrintWords Go.Proofs.YtocicifgglkaeaaW.PrintLast Go.Proofs.YtocicifgglkaeaaW.PrintMore Go.Proofs.Ytocicifgglkaeaa.Core Go.Proofs.Ytocicifgglkaeaa.Wk
set_option linter.unusedVariables false
set_option linter.unusedSimpArgs false
set_option maxHeartbeats 4000000 in
set_option maxRecDepth 100000 in
theorem may_22 (a c : Int) (A : Option Addr) (cc : Nat) (v : List Int) (t n o : Int) (w : World) (hV : Kd.C (Kd.int .i64) w A v.length v) : Calls Try.prog 20 #[.agg #[.int .i64 22, .int .i64 a, .int .i64 c, .slice A v.length cc, .int .i64 t, .int .i64 n, .int .i64 o]] w fun e w' => e = .returned (.bool (chkB 22 a c v t n o)) ∧ Below w.heap.size w w' := by
 have HV := Aside0.mk hV; clear hV
 by_cases hz0 : (n == 0) = true
 ·have z0 : (n == 0) = true := hz0; clear hz0
  by_cases hz1 : (o == 0) = true
  ·have z1 : (o == 0) = true := hz1; clear hz1
   by_cases hz2 : ((v.length : Int) == 0) = true
   ·have z2 : ((v.length : Int) == 0) = true := hz2; clear hz2
    by_cases hz3 : (t == 0) = true
    ·have z3 : (t == 0) = true := hz3; clear hz3
     by_cases hz4 : (c == 0) = true
     ·have z4 : (c == 0) = true := hz4; clear hz4
      by_cases hz5 : spB a 1 = true
      ·have z5 : spB a 1 = true := hz5; clear hz5
       by_cases hz6 : wB 0 65535 n = true
       ·have z6 : wB 0 65535 n = true := hz6; clear hz6
        by_cases hz7 : wB 0 65535 o = true
        ·have z7 : wB 0 65535 o = true := hz7; clear hz7
         have HR : Aside0 (chkB 22 a c v t n o = true) := ⟨by simp_all [chkB]⟩
         rw [HR.out]
         go_enter Try.func20, Try.ntmps20
         go_wp2_with (first | ((with_reducible refine gate_dst (N := 1) rfl ?_); refine bx_ (N := 1) (cs := #[.int .i64 22, .int .i64 a, .int .i64 c, .slice A v.length cc, .int .i64 t, .int .i64 n, .int .i64 o]) (t := 24) ?_; intro g hg w1 hb HB; have XB := Aside0.mk HB; have BK := Aside0.mk hb; obtain ⟨k0, k1, k2, k3, k4, k5, k6⟩ := cells7 hb; clear hg hb HB) | (go_at_call 45; refine (is_c _ _).mono ?_; rintro e w' ⟨rfl, rfl⟩) | (go_at_call 43; refine (refspan_c _ _ _ (by omega) (by omega)).mono ?_; rintro e w' ⟨rfl, rfl⟩))
         go_ret
         exact ⟨rfl, XB.out⟩
        ·have z7 : wB 0 65535 o = false := by simpa using hz7
         clear hz7
         have HR : Aside0 (chkB 22 a c v t n o = false) := ⟨by simp_all [chkB]⟩
         rw [HR.out]
         go_enter Try.func20, Try.ntmps20
         go_wp2_with (first | ((with_reducible refine gate_dst (N := 1) rfl ?_); refine bx_ (N := 1) (cs := #[.int .i64 22, .int .i64 a, .int .i64 c, .slice A v.length cc, .int .i64 t, .int .i64 n, .int .i64 o]) (t := 24) ?_; intro g hg w1 hb HB; have XB := Aside0.mk HB; have BK := Aside0.mk hb; obtain ⟨k0, k1, k2, k3, k4, k5, k6⟩ := cells7 hb; clear hg hb HB) | (go_at_call 45; refine (is_c _ _).mono ?_; rintro e w' ⟨rfl, rfl⟩) | (go_at_call 43; refine (refspan_c _ _ _ (by omega) (by omega)).mono ?_; rintro e w' ⟨rfl, rfl⟩))
         go_ret
         exact ⟨rfl, XB.out⟩
       ·have z6 : wB 0 65535 n = false := by simpa using hz6
        clear hz6
        have HR : Aside0 (chkB 22 a c v t n o = false) := ⟨by simp_all [chkB]⟩
        rw [HR.out]
        go_enter Try.func20, Try.ntmps20
        go_wp2_with (first | ((with_reducible refine gate_dst (N := 1) rfl ?_); refine bx_ (N := 1) (cs := #[.int .i64 22, .int .i64 a, .int .i64 c, .slice A v.length cc, .int .i64 t, .int .i64 n, .int .i64 o]) (t := 24) ?_; intro g hg w1 hb HB; have XB := Aside0.mk HB; have BK := Aside0.mk hb; obtain ⟨k0, k1, k2, k3, k4, k5, k6⟩ := cells7 hb; clear hg hb HB) | (go_at_call 45; refine (is_c _ _).mono ?_; rintro e w' ⟨rfl, rfl⟩) | (go_at_call 43; refine (refspan_c _ _ _ (by omega) (by omega)).mono ?_; rintro e w' ⟨rfl, rfl⟩))
        go_ret
        exact ⟨rfl, XB.out⟩
      ·have z5 : spB a 1 = false := by simpa using hz5
       clear hz5
       have HR : Aside0 (chkB 22 a c v t n o = false) := ⟨by simp_all [chkB]⟩
       rw [HR.out]
       go_enter Try.func20, Try.ntmps20
       go_wp2_with (first | ((with_reducible refine gate_dst (N := 1) rfl ?_); refine bx_ (N := 1) (cs := #[.int .i64 22, .int .i64 a, .int .i64 c, .slice A v.length cc, .int .i64 t, .int .i64 n, .int .i64 o]) (t := 24) ?_; intro g hg w1 hb HB; have XB := Aside0.mk HB; have BK := Aside0.mk hb; obtain ⟨k0, k1, k2, k3, k4, k5, k6⟩ := cells7 hb; clear hg hb HB) | (go_at_call 45; refine (is_c _ _).mono ?_; rintro e w' ⟨rfl, rfl⟩) | (go_at_call 43; refine (refspan_c _ _ _ (by omega) (by omega)).mono ?_; rintro e w' ⟨rfl, rfl⟩))
       go_ret
       exact ⟨rfl, XB.out⟩
     ·have z4 : (c == 0) = false := by simpa using hz4
      clear hz4
      have HR : Aside0 (chkB 22 a c v t n o = false) := ⟨by simp_all [chkB]⟩
      rw [HR.out]
      go_enter Try.func20, Try.ntmps20
      go_wp2_with (first | ((with_reducible refine gate_dst (N := 1) rfl ?_); refine bx_ (N := 1) (cs := #[.int .i64 22, .int .i64 a, .int .i64 c, .slice A v.length cc, .int .i64 t, .int .i64 n, .int .i64 o]) (t := 24) ?_; intro g hg w1 hb HB; have XB := Aside0.mk HB; have BK := Aside0.mk hb; obtain ⟨k0, k1, k2, k3, k4, k5, k6⟩ := cells7 hb; clear hg hb HB) | (go_at_call 45; refine (is_c _ _).mono ?_; rintro e w' ⟨rfl, rfl⟩) | (go_at_call 43; refine (refspan_c _ _ _ (by omega) (by omega)).mono ?_; rintro e w' ⟨rfl, rfl⟩))
      go_ret
      exact ⟨rfl, XB.out⟩
    ·have z3 : (t == 0) = false := by simpa using hz3
     clear hz3
     have HR : Aside0 (chkB 22 a c v t n o = false) := ⟨by simp_all [chkB]⟩
     rw [HR.out]
     go_enter Try.func20, Try.ntmps20
     go_wp2_with (first | ((with_reducible refine gate_dst (N := 1) rfl ?_); refine bx_ (N := 1) (cs := #[.int .i64 22, .int .i64 a, .int .i64 c, .slice A v.length cc, .int .i64 t, .int .i64 n, .int .i64 o]) (t := 24) ?_; intro g hg w1 hb HB; have XB := Aside0.mk HB; have BK := Aside0.mk hb; obtain ⟨k0, k1, k2, k3, k4, k5, k6⟩ := cells7 hb; clear hg hb HB) | (go_at_call 45; refine (is_c _ _).mono ?_; rintro e w' ⟨rfl, rfl⟩) | (go_at_call 43; refine (refspan_c _ _ _ (by omega) (by omega)).mono ?_; rintro e w' ⟨rfl, rfl⟩))
     go_ret
     exact ⟨rfl, XB.out⟩
   ·have z2 : ((v.length : Int) == 0) = false := by simpa using hz2
    clear hz2
    have HR : Aside0 (chkB 22 a c v t n o = false) := ⟨by simp_all [chkB]⟩
    rw [HR.out]
    go_enter Try.func20, Try.ntmps20
    go_wp2_with (first | ((with_reducible refine gate_dst (N := 1) rfl ?_); refine bx_ (N := 1) (cs := #[.int .i64 22, .int .i64 a, .int .i64 c, .slice A v.length cc, .int .i64 t, .int .i64 n, .int .i64 o]) (t := 24) ?_; intro g hg w1 hb HB; have XB := Aside0.mk HB; have BK := Aside0.mk hb; obtain ⟨k0, k1, k2, k3, k4, k5, k6⟩ := cells7 hb; clear hg hb HB) | (go_at_call 45; refine (is_c _ _).mono ?_; rintro e w' ⟨rfl, rfl⟩) | (go_at_call 43; refine (refspan_c _ _ _ (by omega) (by omega)).mono ?_; rintro e w' ⟨rfl, rfl⟩))
    go_ret
    exact ⟨rfl, XB.out⟩
  ·have z1 : (o == 0) = false := by simpa using hz1
   clear hz1
   by_cases hz2 : ((v.length : Int) == 0) = true
   ·have z2 : ((v.length : Int) == 0) = true := hz2; clear hz2
    by_cases hz3 : (t == 0) = true
    ·have z3 : (t == 0) = true := hz3; clear hz3
     by_cases hz4 : (c == 0) = true
     ·have z4 : (c == 0) = true := hz4; clear hz4
      by_cases hz5 : spB a 1 = true
      ·have z5 : spB a 1 = true := hz5; clear hz5
       by_cases hz6 : wB 0 65535 n = true
       ·have z6 : wB 0 65535 n = true := hz6; clear hz6
        by_cases hz7 : wB 0 65535 o = true
        ·have z7 : wB 0 65535 o = true := hz7; clear hz7
         have HR : Aside0 (chkB 22 a c v t n o = true) := ⟨by simp_all [chkB]⟩
         rw [HR.out]
         go_enter Try.func20, Try.ntmps20
         go_wp2_with (first | ((with_reducible refine gate_dst (N := 1) rfl ?_); refine bx_ (N := 1) (cs := #[.int .i64 22, .int .i64 a, .int .i64 c, .slice A v.length cc, .int .i64 t, .int .i64 n, .int .i64 o]) (t := 24) ?_; intro g hg w1 hb HB; have XB := Aside0.mk HB; have BK := Aside0.mk hb; obtain ⟨k0, k1, k2, k3, k4, k5, k6⟩ := cells7 hb; clear hg hb HB) | (go_at_call 45; refine (is_c _ _).mono ?_; rintro e w' ⟨rfl, rfl⟩) | (go_at_call 43; refine (refspan_c _ _ _ (by omega) (by omega)).mono ?_; rintro e w' ⟨rfl, rfl⟩))
         go_ret
         exact ⟨rfl, XB.out⟩
        ·have z7 : wB 0 65535 o = false := by simpa using hz7
         clear hz7
         have HR : Aside0 (chkB 22 a c v t n o = false) := ⟨by simp_all [chkB]⟩
         rw [HR.out]
         go_enter Try.func20, Try.ntmps20
         go_wp2_with (first | ((with_reducible refine gate_dst (N := 1) rfl ?_); refine bx_ (N := 1) (cs := #[.int .i64 22, .int .i64 a, .int .i64 c, .slice A v.length cc, .int .i64 t, .int .i64 n, .int .i64 o]) (t := 24) ?_; intro g hg w1 hb HB; have XB := Aside0.mk HB; have BK := Aside0.mk hb; obtain ⟨k0, k1, k2, k3, k4, k5, k6⟩ := cells7 hb; clear hg hb HB) | (go_at_call 45; refine (is_c _ _).mono ?_; rintro e w' ⟨rfl, rfl⟩) | (go_at_call 43; refine (refspan_c _ _ _ (by omega) (by omega)).mono ?_; rintro e w' ⟨rfl, rfl⟩))
         go_ret
         exact ⟨rfl, XB.out⟩
       ·have z6 : wB 0 65535 n = false := by simpa using hz6
        clear hz6
        have HR : Aside0 (chkB 22 a c v t n o = false) := ⟨by simp_all [chkB]⟩
        rw [HR.out]
        go_enter Try.func20, Try.ntmps20
        go_wp2_with (first | ((with_reducible refine gate_dst (N := 1) rfl ?_); refine bx_ (N := 1) (cs := #[.int .i64 22, .int .i64 a, .int .i64 c, .slice A v.length cc, .int .i64 t, .int .i64 n, .int .i64 o]) (t := 24) ?_; intro g hg w1 hb HB; have XB := Aside0.mk HB; have BK := Aside0.mk hb; obtain ⟨k0, k1, k2, k3, k4, k5, k6⟩ := cells7 hb; clear hg hb HB) | (go_at_call 45; refine (is_c _ _).mono ?_; rintro e w' ⟨rfl, rfl⟩) | (go_at_call 43; refine (refspan_c _ _ _ (by omega) (by omega)).mono ?_; rintro e w' ⟨rfl, rfl⟩))
        go_ret
        exact ⟨rfl, XB.out⟩
      ·have z5 : spB a 1 = false := by simpa using hz5
       clear hz5
       have HR : Aside0 (chkB 22 a c v t n o = false) := ⟨by simp_all [chkB]⟩
       rw [HR.out]
       go_enter Try.func20, Try.ntmps20
       go_wp2_with (first | ((with_reducible refine gate_dst (N := 1) rfl ?_); refine bx_ (N := 1) (cs := #[.int .i64 22, .int .i64 a, .int .i64 c, .slice A v.length cc, .int .i64 t, .int .i64 n, .int .i64 o]) (t := 24) ?_; intro g hg w1 hb HB; have XB := Aside0.mk HB; have BK := Aside0.mk hb; obtain ⟨k0, k1, k2, k3, k4, k5, k6⟩ := cells7 hb; clear hg hb HB) | (go_at_call 45; refine (is_c _ _).mono ?_; rintro e w' ⟨rfl, rfl⟩) | (go_at_call 43; refine (refspan_c _ _ _ (by omega) (by omega)).mono ?_; rintro e w' ⟨rfl, rfl⟩))
       go_ret
       exact ⟨rfl, XB.out⟩
     ·have z4 : (c == 0) = false := by simpa using hz4
      clear hz4
      have HR : Aside0 (chkB 22 a c v t n o = false) := ⟨by simp_all [chkB]⟩
      rw [HR.out]
      go_enter Try.func20, Try.ntmps20
      go_wp2_with (first | ((with_reducible refine gate_dst (N := 1) rfl ?_); refine bx_ (N := 1) (cs := #[.int .i64 22, .int .i64 a, .int .i64 c, .slice A v.length cc, .int .i64 t, .int .i64 n, .int .i64 o]) (t := 24) ?_; intro g hg w1 hb HB; have XB := Aside0.mk HB; have BK := Aside0.mk hb; obtain ⟨k0, k1, k2, k3, k4, k5, k6⟩ := cells7 hb; clear hg hb HB) | (go_at_call 45; refine (is_c _ _).mono ?_; rintro e w' ⟨rfl, rfl⟩) | (go_at_call 43; refine (refspan_c _ _ _ (by omega) (by omega)).mono ?_; rintro e w' ⟨rfl, rfl⟩))
      go_ret
      exact ⟨rfl, XB.out⟩
    ·have z3 : (t == 0) = false := by simpa using hz3
     clear hz3
     have HR : Aside0 (chkB 22 a c v t n o = false) := ⟨by simp_all [chkB]⟩
     rw [HR.out]
     go_enter Try.func20, Try.ntmps20
     go_wp2_with (first | ((with_reducible refine gate_dst (N := 1) rfl ?_); refine bx_ (N := 1) (cs := #[.int .i64 22, .int .i64 a, .int .i64 c, .slice A v.length cc, .int .i64 t, .int .i64 n, .int .i64 o]) (t := 24) ?_; intro g hg w1 hb HB; have XB := Aside0.mk HB; have BK := Aside0.mk hb; obtain ⟨k0, k1, k2, k3, k4, k5, k6⟩ := cells7 hb; clear hg hb HB) | (go_at_call 45; refine (is_c _ _).mono ?_; rintro e w' ⟨rfl, rfl⟩) | (go_at_call 43; refine (refspan_c _ _ _ (by omega) (by omega)).mono ?_; rintro e w' ⟨rfl, rfl⟩))
     go_ret
     exact ⟨rfl, XB.out⟩
   ·have z2 : ((v.length : Int) == 0) = false := by simpa using hz2
    clear hz2
    have HR : Aside0 (chkB 22 a c v t n o = false) := ⟨by simp_all [chkB]⟩
    rw [HR.out]
    go_enter Try.func20, Try.ntmps20
    go_wp2_with (first | ((with_reducible refine gate_dst (N := 1) rfl ?_); refine bx_ (N := 1) (cs := #[.int .i64 22, .int .i64 a, .int .i64 c, .slice A v.length cc, .int .i64 t, .int .i64 n, .int .i64 o]) (t := 24) ?_; intro g hg w1 hb HB; have XB := Aside0.mk HB; have BK := Aside0.mk hb; obtain ⟨k0, k1, k2, k3, k4, k5, k6⟩ := cells7 hb; clear hg hb HB) | (go_at_call 45; refine (is_c _ _).mono ?_; rintro e w' ⟨rfl, rfl⟩) | (go_at_call 43; refine (refspan_c _ _ _ (by omega) (by omega)).mono ?_; rintro e w' ⟨rfl, rfl⟩))
    go_ret
    exact ⟨rfl, XB.out⟩
 ·have z0 : (n == 0) = false := by simpa using hz0
  clear hz0
  by_cases hz1 : ((v.length : Int) == 0) = true
  ·have z1 : ((v.length : Int) == 0) = true := hz1; clear hz1
   by_cases hz2 : (t == 0) = true
   ·have z2 : (t == 0) = true := hz2; clear hz2
    by_cases hz3 : (c == 0) = true
    ·have z3 : (c == 0) = true := hz3; clear hz3
     by_cases hz4 : spB a 1 = true
     ·have z4 : spB a 1 = true := hz4; clear hz4
      by_cases hz5 : wB 0 65535 n = true
      ·have z5 : wB 0 65535 n = true := hz5; clear hz5
       by_cases hz6 : wB 0 65535 o = true
       ·have z6 : wB 0 65535 o = true := hz6; clear hz6
        have HR : Aside0 (chkB 22 a c v t n o = true) := ⟨by simp_all [chkB]⟩
        rw [HR.out]
        go_enter Try.func20, Try.ntmps20
        go_wp2_with (first | ((with_reducible refine gate_dst (N := 1) rfl ?_); refine bx_ (N := 1) (cs := #[.int .i64 22, .int .i64 a, .int .i64 c, .slice A v.length cc, .int .i64 t, .int .i64 n, .int .i64 o]) (t := 24) ?_; intro g hg w1 hb HB; have XB := Aside0.mk HB; have BK := Aside0.mk hb; obtain ⟨k0, k1, k2, k3, k4, k5, k6⟩ := cells7 hb; clear hg hb HB) | (go_at_call 45; refine (is_c _ _).mono ?_; rintro e w' ⟨rfl, rfl⟩) | (go_at_call 43; refine (refspan_c _ _ _ (by omega) (by omega)).mono ?_; rintro e w' ⟨rfl, rfl⟩))
        go_ret
        exact ⟨rfl, XB.out⟩
       ·have z6 : wB 0 65535 o = false := by simpa using hz6
        clear hz6
        have HR : Aside0 (chkB 22 a c v t n o = false) := ⟨by simp_all [chkB]⟩
        rw [HR.out]
        go_enter Try.func20, Try.ntmps20
        go_wp2_with (first | ((with_reducible refine gate_dst (N := 1) rfl ?_); refine bx_ (N := 1) (cs := #[.int .i64 22, .int .i64 a, .int .i64 c, .slice A v.length cc, .int .i64 t, .int .i64 n, .int .i64 o]) (t := 24) ?_; intro g hg w1 hb HB; have XB := Aside0.mk HB; have BK := Aside0.mk hb; obtain ⟨k0, k1, k2, k3, k4, k5, k6⟩ := cells7 hb; clear hg hb HB) | (go_at_call 45; refine (is_c _ _).mono ?_; rintro e w' ⟨rfl, rfl⟩) | (go_at_call 43; refine (refspan_c _ _ _ (by omega) (by omega)).mono ?_; rintro e w' ⟨rfl, rfl⟩))
        go_ret
        exact ⟨rfl, XB.out⟩
      ·have z5 : wB 0 65535 n = false := by simpa using hz5
       clear hz5
       have HR : Aside0 (chkB 22 a c v t n o = false) := ⟨by simp_all [chkB]⟩
       rw [HR.out]
       go_enter Try.func20, Try.ntmps20
       go_wp2_with (first | ((with_reducible refine gate_dst (N := 1) rfl ?_); refine bx_ (N := 1) (cs := #[.int .i64 22, .int .i64 a, .int .i64 c, .slice A v.length cc, .int .i64 t, .int .i64 n, .int .i64 o]) (t := 24) ?_; intro g hg w1 hb HB; have XB := Aside0.mk HB; have BK := Aside0.mk hb; obtain ⟨k0, k1, k2, k3, k4, k5, k6⟩ := cells7 hb; clear hg hb HB) | (go_at_call 45; refine (is_c _ _).mono ?_; rintro e w' ⟨rfl, rfl⟩) | (go_at_call 43; refine (refspan_c _ _ _ (by omega) (by omega)).mono ?_; rintro e w' ⟨rfl, rfl⟩))
       go_ret
       exact ⟨rfl, XB.out⟩
     ·have z4 : spB a 1 = false := by simpa using hz4
      clear hz4
      have HR : Aside0 (chkB 22 a c v t n o = false) := ⟨by simp_all [chkB]⟩
      rw [HR.out]
      go_enter Try.func20, Try.ntmps20
      go_wp2_with (first | ((with_reducible refine gate_dst (N := 1) rfl ?_); refine bx_ (N := 1) (cs := #[.int .i64 22, .int .i64 a, .int .i64 c, .slice A v.length cc, .int .i64 t, .int .i64 n, .int .i64 o]) (t := 24) ?_; intro g hg w1 hb HB; have XB := Aside0.mk HB; have BK := Aside0.mk hb; obtain ⟨k0, k1, k2, k3, k4, k5, k6⟩ := cells7 hb; clear hg hb HB) | (go_at_call 45; refine (is_c _ _).mono ?_; rintro e w' ⟨rfl, rfl⟩) | (go_at_call 43; refine (refspan_c _ _ _ (by omega) (by omega)).mono ?_; rintro e w' ⟨rfl, rfl⟩))
      go_ret
      exact ⟨rfl, XB.out⟩
    ·have z3 : (c == 0) = false := by simpa using hz3
     clear hz3
     have HR : Aside0 (chkB 22 a c v t n o = false) := ⟨by simp_all [chkB]⟩
     rw [HR.out]
     go_enter Try.func20, Try.ntmps20
     go_wp2_with (first | ((with_reducible refine gate_dst (N := 1) rfl ?_); refine bx_ (N := 1) (cs := #[.int .i64 22, .int .i64 a, .int .i64 c, .slice A v.length cc, .int .i64 t, .int .i64 n, .int .i64 o]) (t := 24) ?_; intro g hg w1 hb HB; have XB := Aside0.mk HB; have BK := Aside0.mk hb; obtain ⟨k0, k1, k2, k3, k4, k5, k6⟩ := cells7 hb; clear hg hb HB) | (go_at_call 45; refine (is_c _ _).mono ?_; rintro e w' ⟨rfl, rfl⟩) | (go_at_call 43; refine (refspan_c _ _ _ (by omega) (by omega)).mono ?_; rintro e w' ⟨rfl, rfl⟩))
     go_ret
     exact ⟨rfl, XB.out⟩
   ·have z2 : (t == 0) = false := by simpa using hz2
    clear hz2
    have HR : Aside0 (chkB 22 a c v t n o = false) := ⟨by simp_all [chkB]⟩
    rw [HR.out]
    go_enter Try.func20, Try.ntmps20
    go_wp2_with (first | ((with_reducible refine gate_dst (N := 1) rfl ?_); refine bx_ (N := 1) (cs := #[.int .i64 22, .int .i64 a, .int .i64 c, .slice A v.length cc, .int .i64 t, .int .i64 n, .int .i64 o]) (t := 24) ?_; intro g hg w1 hb HB; have XB := Aside0.mk HB; have BK := Aside0.mk hb; obtain ⟨k0, k1, k2, k3, k4, k5, k6⟩ := cells7 hb; clear hg hb HB) | (go_at_call 45; refine (is_c _ _).mono ?_; rintro e w' ⟨rfl, rfl⟩) | (go_at_call 43; refine (refspan_c _ _ _ (by omega) (by omega)).mono ?_; rintro e w' ⟨rfl, rfl⟩))
    go_ret
    exact ⟨rfl, XB.out⟩
  ·have z1 : ((v.length : Int) == 0) = false := by simpa using hz1
   clear hz1
   have HR : Aside0 (chkB 22 a c v t n o = false) := ⟨by simp_all [chkB]⟩
   rw [HR.out]
   go_enter Try.func20, Try.ntmps20
   go_wp2_with (first | ((with_reducible refine gate_dst (N := 1) rfl ?_); refine bx_ (N := 1) (cs := #[.int .i64 22, .int .i64 a, .int .i64 c, .slice A v.length cc, .int .i64 t, .int .i64 n, .int .i64 o]) (t := 24) ?_; intro g hg w1 hb HB; have XB := Aside0.mk HB; have BK := Aside0.mk hb; obtain ⟨k0, k1, k2, k3, k4, k5, k6⟩ := cells7 hb; clear hg hb HB) | (go_at_call 45; refine (is_c _ _).mono ?_; rintro e w' ⟨rfl, rfl⟩) | (go_at_call 43; refine (refspan_c _ _ _ (by omega) (by omega)).mono ?_; rintro e w' ⟨rfl, rfl⟩))
   go_ret
   exact ⟨rfl, XB.out⟩
set_option maxHeartbeats 4000000 in
set_option maxRecDepth 100000 in
theorem may_f (f a c : Int) (A : Option Addr) (cc : Nat) (v : List Int) (t n o : Int) (w : World) (hV : Kd.C (Kd.int .i64) w A v.length v) (hf : f ≠ 1 ∧ f ≠ 2 ∧ f ≠ 3 ∧ f ≠ 4 ∧ f ≠ 5 ∧ f ≠ 6 ∧ f ≠ 15 ∧ f ≠ 16 ∧ f ≠ 22 ∧ f ≠ 23) : Calls Try.prog 20 #[.agg #[.int .i64 f, .int .i64 a, .int .i64 c, .slice A v.length cc, .int .i64 t, .int .i64 n, .int .i64 o]] w fun e w' => e = .returned (.bool (chkB f a c v t n o)) ∧ Below w.heap.size w w' := by
 have HV := Aside0.mk hV; clear hV
 obtain ⟨g1, g2, g3, g4, g5, g6, g7, g8, g9, g10⟩ := hf
 have HR : Aside0 (chkB f a c v t n o = false) := ⟨by unfold chkB; rw [if_neg (by omega), if_neg (by omega), if_neg g5, if_neg g6, if_neg g7, if_neg g8, if_neg g9, if_neg g10]⟩
 have y0 : (f == 1) = false := beq_eq_false_iff_ne.2 g1
 have y1 : (f == 2) = false := beq_eq_false_iff_ne.2 g2
 have y2 : (f == 3) = false := beq_eq_false_iff_ne.2 g3
 have y3 : (f == 4) = false := beq_eq_false_iff_ne.2 g4
 have y4 : (f == 5) = false := beq_eq_false_iff_ne.2 g5
 have y5 : (f == 6) = false := beq_eq_false_iff_ne.2 g6
 have y6 : (f == 15) = false := beq_eq_false_iff_ne.2 g7
 have y7 : (f == 16) = false := beq_eq_false_iff_ne.2 g8
 have y8 : (f == 22) = false := beq_eq_false_iff_ne.2 g9
 have y9 : (f == 23) = false := beq_eq_false_iff_ne.2 g10
 clear g1 g2 g3 g4 g5 g6 g7 g8 g9 g10
 rw [HR.out]
 by_cases hz0 : (n == 0) = true
 ·have z0 : (n == 0) = true := hz0; clear hz0
  by_cases hz1 : (o == 0) = true
  ·have z1 : (o == 0) = true := hz1; clear hz1
   go_enter Try.func20, Try.ntmps20
   go_wp2_with (first | ((with_reducible refine gate_dst (N := 1) rfl ?_); refine bx_ (N := 1) (cs := #[.int .i64 f, .int .i64 a, .int .i64 c, .slice A v.length cc, .int .i64 t, .int .i64 n, .int .i64 o]) (t := 24) ?_; intro g hg w1 hb HB; have XB := Aside0.mk HB; have BK := Aside0.mk hb; obtain ⟨k0, k1, k2, k3, k4, k5, k6⟩ := cells7 hb; clear hg hb HB) | (go_at_call 45; refine (is_c _ _).mono ?_; rintro e w' ⟨rfl, rfl⟩) | (go_at_call 43; refine (refspan_c _ _ _ (by omega) (by omega)).mono ?_; rintro e w' ⟨rfl, rfl⟩))
   go_ret
   exact ⟨rfl, XB.out⟩
  ·have z1 : (o == 0) = false := by simpa using hz1
   clear hz1
   go_enter Try.func20, Try.ntmps20
   go_wp2_with (first | ((with_reducible refine gate_dst (N := 1) rfl ?_); refine bx_ (N := 1) (cs := #[.int .i64 f, .int .i64 a, .int .i64 c, .slice A v.length cc, .int .i64 t, .int .i64 n, .int .i64 o]) (t := 24) ?_; intro g hg w1 hb HB; have XB := Aside0.mk HB; have BK := Aside0.mk hb; obtain ⟨k0, k1, k2, k3, k4, k5, k6⟩ := cells7 hb; clear hg hb HB) | (go_at_call 45; refine (is_c _ _).mono ?_; rintro e w' ⟨rfl, rfl⟩) | (go_at_call 43; refine (refspan_c _ _ _ (by omega) (by omega)).mono ?_; rintro e w' ⟨rfl, rfl⟩))
   go_ret
   exact ⟨rfl, XB.out⟩
 ·have z0 : (n == 0) = false := by simpa using hz0
  clear hz0
  go_enter Try.func20, Try.ntmps20
  go_wp2_with (first | ((with_reducible refine gate_dst (N := 1) rfl ?_); refine bx_ (N := 1) (cs := #[.int .i64 f, .int .i64 a, .int .i64 c, .slice A v.length cc, .int .i64 t, .int .i64 n, .int .i64 o]) (t := 24) ?_; intro g hg w1 hb HB; have XB := Aside0.mk HB; have BK := Aside0.mk hb; obtain ⟨k0, k1, k2, k3, k4, k5, k6⟩ := cells7 hb; clear hg hb HB) | (go_at_call 45; refine (is_c _ _).mono ?_; rintro e w' ⟨rfl, rfl⟩) | (go_at_call 43; refine (refspan_c _ _ _ (by omega) (by omega)).mono ?_; rintro e w' ⟨rfl, rfl⟩))
  go_ret
  exact ⟨rfl, XB.out⟩
end Go.Proofs.Ytocicifgglkaeaa.Chk
end

section
namespace Go.Proofs.Ytocicifgglkaeaa.Chk
open Go.RowKit Go.Proofs.YtocicifgglkaeaaW.PrintWords Go.Proofs.YtocicifgglkaeaaW.PrintLast Go.Proofs.YtocicifgglkaeaaW.PrintMore Go.Proofs.Ytocicifgglkaeaa.Core Go.Proofs.Ytocicifgglkaeaa.Wk
set_option linter.unusedVariables false
set_option linter.unusedSimpArgs false
set_option maxHeartbeats 4000000 in
set_option maxRecDepth 100000 in
theorem may_23 (a c : Int) (A : Option Addr) (cc : Nat) (v : List Int) (t n o : Int) (w : World) (hV : Kd.C (Kd.int .i64) w A v.length v) : Calls Try.prog 20 #[.agg #[.int .i64 23, .int .i64 a, .int .i64 c, .slice A v.length cc, .int .i64 t, .int .i64 n, .int .i64 o]] w fun e w' => e = .returned (.bool (chkB 23 a c v t n o)) ∧ Below w.heap.size w w' := by
 have HV := Aside0.mk hV; clear hV
 by_cases hz0 : (n == 0) = true
 ·have z0 : (n == 0) = true := hz0; clear hz0
  by_cases hz1 : (o == 0) = true
  ·have z1 : (o == 0) = true := hz1; clear hz1
   by_cases hz2 : decide (1 ≤ c) = true
   ·have z2 : decide (1 ≤ c) = true := hz2; clear hz2; have pz2 := of_decide_eq_true z2
    by_cases hz3 : decide (c ≤ 125) = true
    ·have z3 : decide (c ≤ 125) = true := hz3; clear hz3; have pz3 := of_decide_eq_true z3
     by_cases hz4 : spB a c = true
     ·have z4 : spB a c = true := hz4; clear hz4
      by_cases hz5 : smB 1 121 65535 v = true
      ·have z5 : smB 1 121 65535 v = true := hz5; clear hz5; have pz5 := smB_len z5
       by_cases hz6 : spB t v.length = true
       ·have z6 : spB t v.length = true := hz6; clear hz6
        have HR : Aside0 (chkB 23 a c v t n o = true) := ⟨by simp_all [chkB, wB] <;> (intros; omega)⟩
        rw [HR.out]
        go_enter Try.func20, Try.ntmps20
        go_wp2_with (first | ((with_reducible refine gate_dst (N := 1) rfl ?_); refine bx_ (N := 1) (cs := #[.int .i64 23, .int .i64 a, .int .i64 c, .slice A v.length cc, .int .i64 t, .int .i64 n, .int .i64 o]) (t := 24) ?_; intro g hg w1 hb HB; have XB := Aside0.mk HB; have BK := Aside0.mk hb; obtain ⟨k0, k1, k2, k3, k4, k5, k6⟩ := cells7 hb; clear hg hb HB) | (go_at_call 45; refine (is_c _ _).mono ?_; rintro e w' ⟨rfl, rfl⟩) | (go_at_call 43; refine (refspan_c _ _ _ (by omega) (by omega)).mono ?_; rintro e w' ⟨rfl, rfl⟩) | (go_at_call 44; refine (vals_c 23 a c A cc v t n o _ _ _ (Kd.C_below HV.out XB.out) (m := 65535) (by decide)).mono ?_; rintro e w2 ⟨rfl, HB⟩; have XBn := Aside0.mk (below_step XB.out HB); have BKn := Aside0.mk (blk_below BK.out HB); obtain ⟨k0, k1, k2, k3, k4, k5, k6⟩ := cells7 BKn.out; clear HB XB BK; have XB := XBn; have BK := BKn))
        go_ret
        exact ⟨rfl, XB.out⟩
       ·have z6 : spB t v.length = false := by simpa using hz6
        clear hz6
        have HR : Aside0 (chkB 23 a c v t n o = false) := ⟨by simp_all [chkB, wB] <;> (intros; omega)⟩
        rw [HR.out]
        go_enter Try.func20, Try.ntmps20
        go_wp2_with (first | ((with_reducible refine gate_dst (N := 1) rfl ?_); refine bx_ (N := 1) (cs := #[.int .i64 23, .int .i64 a, .int .i64 c, .slice A v.length cc, .int .i64 t, .int .i64 n, .int .i64 o]) (t := 24) ?_; intro g hg w1 hb HB; have XB := Aside0.mk HB; have BK := Aside0.mk hb; obtain ⟨k0, k1, k2, k3, k4, k5, k6⟩ := cells7 hb; clear hg hb HB) | (go_at_call 45; refine (is_c _ _).mono ?_; rintro e w' ⟨rfl, rfl⟩) | (go_at_call 43; refine (refspan_c _ _ _ (by omega) (by omega)).mono ?_; rintro e w' ⟨rfl, rfl⟩) | (go_at_call 44; refine (vals_c 23 a c A cc v t n o _ _ _ (Kd.C_below HV.out XB.out) (m := 65535) (by decide)).mono ?_; rintro e w2 ⟨rfl, HB⟩; have XBn := Aside0.mk (below_step XB.out HB); have BKn := Aside0.mk (blk_below BK.out HB); obtain ⟨k0, k1, k2, k3, k4, k5, k6⟩ := cells7 BKn.out; clear HB XB BK; have XB := XBn; have BK := BKn))
        go_ret
        exact ⟨rfl, XB.out⟩
      ·have z5 : smB 1 121 65535 v = false := by simpa using hz5
       clear hz5
       have HR : Aside0 (chkB 23 a c v t n o = false) := ⟨by simp_all [chkB, wB] <;> (intros; omega)⟩
       rw [HR.out]
       go_enter Try.func20, Try.ntmps20
       go_wp2_with (first | ((with_reducible refine gate_dst (N := 1) rfl ?_); refine bx_ (N := 1) (cs := #[.int .i64 23, .int .i64 a, .int .i64 c, .slice A v.length cc, .int .i64 t, .int .i64 n, .int .i64 o]) (t := 24) ?_; intro g hg w1 hb HB; have XB := Aside0.mk HB; have BK := Aside0.mk hb; obtain ⟨k0, k1, k2, k3, k4, k5, k6⟩ := cells7 hb; clear hg hb HB) | (go_at_call 45; refine (is_c _ _).mono ?_; rintro e w' ⟨rfl, rfl⟩) | (go_at_call 43; refine (refspan_c _ _ _ (by omega) (by omega)).mono ?_; rintro e w' ⟨rfl, rfl⟩) | (go_at_call 44; refine (vals_c 23 a c A cc v t n o _ _ _ (Kd.C_below HV.out XB.out) (m := 65535) (by decide)).mono ?_; rintro e w2 ⟨rfl, HB⟩; have XBn := Aside0.mk (below_step XB.out HB); have BKn := Aside0.mk (blk_below BK.out HB); obtain ⟨k0, k1, k2, k3, k4, k5, k6⟩ := cells7 BKn.out; clear HB XB BK; have XB := XBn; have BK := BKn))
       go_ret
       exact ⟨rfl, XB.out⟩
     ·have z4 : spB a c = false := by simpa using hz4
      clear hz4
      have HR : Aside0 (chkB 23 a c v t n o = false) := ⟨by simp_all [chkB, wB] <;> (intros; omega)⟩
      rw [HR.out]
      go_enter Try.func20, Try.ntmps20
      go_wp2_with (first | ((with_reducible refine gate_dst (N := 1) rfl ?_); refine bx_ (N := 1) (cs := #[.int .i64 23, .int .i64 a, .int .i64 c, .slice A v.length cc, .int .i64 t, .int .i64 n, .int .i64 o]) (t := 24) ?_; intro g hg w1 hb HB; have XB := Aside0.mk HB; have BK := Aside0.mk hb; obtain ⟨k0, k1, k2, k3, k4, k5, k6⟩ := cells7 hb; clear hg hb HB) | (go_at_call 45; refine (is_c _ _).mono ?_; rintro e w' ⟨rfl, rfl⟩) | (go_at_call 43; refine (refspan_c _ _ _ (by omega) (by omega)).mono ?_; rintro e w' ⟨rfl, rfl⟩) | (go_at_call 44; refine (vals_c 23 a c A cc v t n o _ _ _ (Kd.C_below HV.out XB.out) (m := 65535) (by decide)).mono ?_; rintro e w2 ⟨rfl, HB⟩; have XBn := Aside0.mk (below_step XB.out HB); have BKn := Aside0.mk (blk_below BK.out HB); obtain ⟨k0, k1, k2, k3, k4, k5, k6⟩ := cells7 BKn.out; clear HB XB BK; have XB := XBn; have BK := BKn))
      go_ret
      exact ⟨rfl, XB.out⟩
    ·have z3 : decide (c ≤ 125) = false := by simpa using hz3
     clear hz3
     have HR : Aside0 (chkB 23 a c v t n o = false) := ⟨by simp_all [chkB, wB] <;> (intros; omega)⟩
     rw [HR.out]
     go_enter Try.func20, Try.ntmps20
     go_wp2_with (first | ((with_reducible refine gate_dst (N := 1) rfl ?_); refine bx_ (N := 1) (cs := #[.int .i64 23, .int .i64 a, .int .i64 c, .slice A v.length cc, .int .i64 t, .int .i64 n, .int .i64 o]) (t := 24) ?_; intro g hg w1 hb HB; have XB := Aside0.mk HB; have BK := Aside0.mk hb; obtain ⟨k0, k1, k2, k3, k4, k5, k6⟩ := cells7 hb; clear hg hb HB) | (go_at_call 45; refine (is_c _ _).mono ?_; rintro e w' ⟨rfl, rfl⟩) | (go_at_call 43; refine (refspan_c _ _ _ (by omega) (by omega)).mono ?_; rintro e w' ⟨rfl, rfl⟩) | (go_at_call 44; refine (vals_c 23 a c A cc v t n o _ _ _ (Kd.C_below HV.out XB.out) (m := 65535) (by decide)).mono ?_; rintro e w2 ⟨rfl, HB⟩; have XBn := Aside0.mk (below_step XB.out HB); have BKn := Aside0.mk (blk_below BK.out HB); obtain ⟨k0, k1, k2, k3, k4, k5, k6⟩ := cells7 BKn.out; clear HB XB BK; have XB := XBn; have BK := BKn))
     go_ret
     exact ⟨rfl, XB.out⟩
   ·have z2 : decide (1 ≤ c) = false := by simpa using hz2
    clear hz2
    have HR : Aside0 (chkB 23 a c v t n o = false) := ⟨by simp_all [chkB, wB] <;> (intros; omega)⟩
    rw [HR.out]
    go_enter Try.func20, Try.ntmps20
    go_wp2_with (first | ((with_reducible refine gate_dst (N := 1) rfl ?_); refine bx_ (N := 1) (cs := #[.int .i64 23, .int .i64 a, .int .i64 c, .slice A v.length cc, .int .i64 t, .int .i64 n, .int .i64 o]) (t := 24) ?_; intro g hg w1 hb HB; have XB := Aside0.mk HB; have BK := Aside0.mk hb; obtain ⟨k0, k1, k2, k3, k4, k5, k6⟩ := cells7 hb; clear hg hb HB) | (go_at_call 45; refine (is_c _ _).mono ?_; rintro e w' ⟨rfl, rfl⟩) | (go_at_call 43; refine (refspan_c _ _ _ (by omega) (by omega)).mono ?_; rintro e w' ⟨rfl, rfl⟩) | (go_at_call 44; refine (vals_c 23 a c A cc v t n o _ _ _ (Kd.C_below HV.out XB.out) (m := 65535) (by decide)).mono ?_; rintro e w2 ⟨rfl, HB⟩; have XBn := Aside0.mk (below_step XB.out HB); have BKn := Aside0.mk (blk_below BK.out HB); obtain ⟨k0, k1, k2, k3, k4, k5, k6⟩ := cells7 BKn.out; clear HB XB BK; have XB := XBn; have BK := BKn))
    go_ret
    exact ⟨rfl, XB.out⟩
  ·have z1 : (o == 0) = false := by simpa using hz1
   clear hz1
   have HR : Aside0 (chkB 23 a c v t n o = false) := ⟨by simp_all [chkB, wB] <;> (intros; omega)⟩
   rw [HR.out]
   go_enter Try.func20, Try.ntmps20
   go_wp2_with (first | ((with_reducible refine gate_dst (N := 1) rfl ?_); refine bx_ (N := 1) (cs := #[.int .i64 23, .int .i64 a, .int .i64 c, .slice A v.length cc, .int .i64 t, .int .i64 n, .int .i64 o]) (t := 24) ?_; intro g hg w1 hb HB; have XB := Aside0.mk HB; have BK := Aside0.mk hb; obtain ⟨k0, k1, k2, k3, k4, k5, k6⟩ := cells7 hb; clear hg hb HB) | (go_at_call 45; refine (is_c _ _).mono ?_; rintro e w' ⟨rfl, rfl⟩) | (go_at_call 43; refine (refspan_c _ _ _ (by omega) (by omega)).mono ?_; rintro e w' ⟨rfl, rfl⟩) | (go_at_call 44; refine (vals_c 23 a c A cc v t n o _ _ _ (Kd.C_below HV.out XB.out) (m := 65535) (by decide)).mono ?_; rintro e w2 ⟨rfl, HB⟩; have XBn := Aside0.mk (below_step XB.out HB); have BKn := Aside0.mk (blk_below BK.out HB); obtain ⟨k0, k1, k2, k3, k4, k5, k6⟩ := cells7 BKn.out; clear HB XB BK; have XB := XBn; have BK := BKn))
   go_ret
   exact ⟨rfl, XB.out⟩
 ·have z0 : (n == 0) = false := by simpa using hz0
  clear hz0
  have HR : Aside0 (chkB 23 a c v t n o = false) := ⟨by simp_all [chkB, wB] <;> (intros; omega)⟩
  rw [HR.out]
  go_enter Try.func20, Try.ntmps20
  go_wp2_with (first | ((with_reducible refine gate_dst (N := 1) rfl ?_); refine bx_ (N := 1) (cs := #[.int .i64 23, .int .i64 a, .int .i64 c, .slice A v.length cc, .int .i64 t, .int .i64 n, .int .i64 o]) (t := 24) ?_; intro g hg w1 hb HB; have XB := Aside0.mk HB; have BK := Aside0.mk hb; obtain ⟨k0, k1, k2, k3, k4, k5, k6⟩ := cells7 hb; clear hg hb HB) | (go_at_call 45; refine (is_c _ _).mono ?_; rintro e w' ⟨rfl, rfl⟩) | (go_at_call 43; refine (refspan_c _ _ _ (by omega) (by omega)).mono ?_; rintro e w' ⟨rfl, rfl⟩) | (go_at_call 44; refine (vals_c 23 a c A cc v t n o _ _ _ (Kd.C_below HV.out XB.out) (m := 65535) (by decide)).mono ?_; rintro e w2 ⟨rfl, HB⟩; have XBn := Aside0.mk (below_step XB.out HB); have BKn := Aside0.mk (blk_below BK.out HB); obtain ⟨k0, k1, k2, k3, k4, k5, k6⟩ := cells7 BKn.out; clear HB XB BK; have XB := XBn; have BK := BKn))
  go_ret
  exact ⟨rfl, XB.out⟩
end Go.Proofs.Ytocicifgglkaeaa.Chk
end

section
namespace Go.Proofs.Ytocicifgglkaeaa.Chk
open Go.RowKit Go.Proofs.YtocicifgglkaeaaW.PrintWords Go.Proofs.YtocicifgglkaeaaW.PrintLast Go.Proofs.YtocicifgglkaeaaW.PrintMore Go.Proofs.Ytocicifgglkaeaa.Core Go.Proofs.Ytocicifgglkaeaa.Wk
set_option linter.unusedVariables false
set_option linter.unusedSimpArgs false
theorem may_c (f a c : Int) (A : Option Addr) (cc : Nat) (v : List Int) (t n o : Int) (w : World) (hV : Kd.C (Kd.int .i64) w A v.length v) : Calls Try.prog 20 #[.agg #[.int .i64 f, .int .i64 a, .int .i64 c, .slice A v.length cc, .int .i64 t, .int .i64 n, .int .i64 o]] w fun e w' => e = .returned (.bool (chkB f a c v t n o)) ∧ Below w.heap.size w w' := by
 by_cases h0 : f = 1
 ·subst h0; exact may_1 a c A cc v t n o w hV
 by_cases h1 : f = 2
 ·subst h1; exact may_2 a c A cc v t n o w hV
 by_cases h2 : f = 3
 ·subst h2; exact may_3 a c A cc v t n o w hV
 by_cases h3 : f = 4
 ·subst h3; exact may_4 a c A cc v t n o w hV
 by_cases h4 : f = 5
 ·subst h4; exact may_5 a c A cc v t n o w hV
 by_cases h5 : f = 6
 ·subst h5; exact may_6 a c A cc v t n o w hV
 by_cases h6 : f = 15
 ·subst h6; exact may_15 a c A cc v t n o w hV
 by_cases h7 : f = 16
 ·subst h7; exact may_16 a c A cc v t n o w hV
 by_cases h8 : f = 22
 ·subst h8; exact may_22 a c A cc v t n o w hV
 by_cases h9 : f = 23
 ·subst h9; exact may_23 a c A cc v t n o w hV
 exact may_f f a c A cc v t n o w hV ⟨h0, h1, h2, h3, h4, h5, h6, h7, h8, h9⟩
end Go.Proofs.Ytocicifgglkaeaa.Chk
end

section
namespace Go.Proofs.Ytocicifgglkaeaa.ExtV
open Go.RowKit Go.Proofs.Ytocicifgglkaeaa.Chk Go.Proofs.Ytocicifgglkaeaa.ExtF Go.Proofs.Ytocicifgglkaeaa.ExtM Go.Proofs.YtocicifgglkaeaaW.PrintWords Go.Proofs.YtocicifgglkaeaaW.PrintLast Go.Proofs.YtocicifgglkaeaaW.PrintMore
set_option linter.unusedVariables false
set_option linter.unusedSimpArgs false
theorem and_eq {a b c d : Bool} (h : a = c) (k : b = d) : (a && b) = (c && d) := by rw [h, k]
theorem sm_bit (l : List Int) (lo hi : Nat) : smB lo hi 1 l = valB true l lo hi :=
 and_eq (decide_eq_decide.2 (by omega)) (by
  rw [if_pos rfl]
  exact decide_eq_decide.2 ⟨fun k x hx => by have := k x hx; omega, fun k x hx => by have := k x hx; omega⟩)
theorem sm_word (l : List Int) (lo hi : Nat) : smB lo hi 65535 l = valB false l lo hi :=
 and_eq (decide_eq_decide.2 (by omega)) (by
  rw [if_neg (by decide)]
  exact decide_eq_decide.2 ⟨fun k x hx => by have := k x hx; omega, fun k x hx => by have := k x hx; omega⟩)
theorem sp_eq (a n : Int) : spB a n = spanB a n := rfl
theorem w_eq (lo hi n : Int) : wB lo hi n = (decide (lo ≤ n) && decide (n ≤ hi)) := by
 unfold wB
 rw [Bool.eq_iff_iff, Bool.and_eq_true, decide_eq_true_eq, decide_eq_true_eq, decide_eq_true_eq]
theorem w_is (n : Int) : wB 0 65535 n = isB n := rfl
theorem chk_may (f a c : Int) (v : List Int) (t n o : Int) : chkB f a c v t n o = mayB f a c v t n o := by
 unfold chkB mayB
 have b1 := sm_bit v 1 1; have b2 := sm_word v 1 1; have b3 := sm_bit v 1 1968; have b4 := sm_word v 1 123; have b5 := sm_word v 1 121
 have c1 : smB 1 1 1 v = valB true v 1 1 := b1
 have c2 : smB 1 1 65535 v = valB false v 1 1 := b2
 have c3 : smB 1 1968 1 v = valB true v 1 1968 := b3
 have c4 : smB 1 123 65535 v = valB false v 1 123 := b4
 have c5 : smB 1 121 65535 v = valB false v 1 121 := b5
 rw [c1, c2, c3, c4, c5, w_is n, w_is o, w_eq 1 2000 c, w_eq 1 125 c]
 simp only [sp_eq, Bool.and_assoc, Bool.and_comm, Bool.and_left_comm]
theorem may_v (f a c : Int) (A : Option Addr) (cc : Nat) (v : List Int) (t n o : Int) (r : Bool) (w : World) (hV : Kd.C (Kd.int .i64) w A v.length v) (h : mayB f a c v t n o = r) : Calls Try.prog 20 #[.agg #[.int .i64 f, .int .i64 a, .int .i64 c, .slice A v.length cc, .int .i64 t, .int .i64 n, .int .i64 o]] w fun e w' => e = .returned (.bool r) ∧ Below w.heap.size w w' := by
 rw [← h, ← chk_may]
 exact Go.Proofs.Ytocicifgglkaeaa.Chk.may_c f a c A cc v t n o w hV
end Go.Proofs.Ytocicifgglkaeaa.ExtV
end

section
namespace Go.Proofs.Ytocicifgglkaeaa.MthD
open Go.RowKit Go.Proofs.YtocicifgglkaeaaW.PrintWords Go.Proofs.YtocicifgglkaeaaW.PrintLast Go.Proofs.YtocicifgglkaeaaW.PrintMore Go.Proofs.Ytocicifgglkaeaa.ExtF Go.Proofs.Ytocicifgglkaeaa.ExtP Go.Proofs.Ytocicifgglkaeaa.ExtQ Go.Proofs.Ytocicifgglkaeaa.PP Go.Proofs.Ytocicifgglkaeaa.PQ Go.Proofs.Ytocicifgglkaeaa.ExtM Go.Proofs.Ytocicifgglkaeaa.MathP Go.Proofs.Ytocicifgglkaeaa.Mth
set_option linter.unusedVariables false
set_option linter.unusedSimpArgs false
theorem ansB_len {fn a1 a2 : Int} {l : List Int} {a4 a5 a6 : Int} {al : List Int} {code : Int} (I : MayIs fn a1 a2 l a4 a5 a6) (c0 : code = 0) : (ansB fn a1 a2 l a4 a5 a6 al code).length =
 if fn = 1 ∨ fn = 2 then 2 + (al.length + 7) / 8 else if fn = 3 ∨ fn = 4 ∨ fn = 23 then 2 + 2 * al.length else if fn = 15 ∨ fn = 16 then 5 else (reqB fn a1 a2 l a4 a5 a6).length := by
 unfold ansB
 rw [if_pos c0]
 split
 ·simp [packs_len]; omega
 split
 ·simp [lays_len]; omega
 split
 ·simp [lays_len]
 ·rfl
end Go.Proofs.Ytocicifgglkaeaa.MthD
end

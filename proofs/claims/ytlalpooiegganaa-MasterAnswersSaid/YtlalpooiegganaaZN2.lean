/- The words, contracts and walks that this claim leans on, put together by a program of this session (part 2). -/
import Derived.Test.YtlalpooiegganaaZN1
import Derived.Lib.AppendZerosOnto
import Derived.WalkMore
section
namespace Go.Proofs.Ytlalpooiegganaa.Chk
open Go.RowKit Go.Proofs.YtlalpooiegganaaW.PrintWords Go.Proofs.YtlalpooiegganaaW.PrintLast Go.Proofs.YtlalpooiegganaaW.PrintMore Go.Proofs.Ytlalpooiegganaa.Core Go.Proofs.Ytlalpooiegganaa.Wk
set_option linter.unusedVariables false
set_option linter.unusedSimpArgs false
set_option maxHeartbeats 4000000 in
set_option maxRecDepth 100000 in
theorem may_3 (a c : Int) (A : Option Addr) (cc : Nat) (v : List Int) (t n o : Int) (w : World) (hV : Kd.C (Kd.int .i64) w A v.length v) : Calls Try.prog 10 #[.agg #[.int .i64 3, .int .i64 a, .int .i64 c, .slice A v.length cc, .int .i64 t, .int .i64 n, .int .i64 o]] w fun e w' => e = .returned (.bool (chkB 3 a c v t n o)) ∧ Below w.heap.size w w' := by
 have HV := Aside0.mk hV; clear hV
 by_cases hz0 : (n == 0) = true
 ·have z0 : (n == 0) = true := hz0; clear hz0
  by_cases hz1 : (o == 0) = true
  ·have z1 : (o == 0) = true := hz1; clear hz1
   by_cases hz2 : ((v.length : Int) == 0) = true
   ·have z2 : ((v.length : Int) == 0) = true := hz2; clear hz2
    by_cases hz3 : (t == 0) = true
    ·have z3 : (t == 0) = true := hz3; clear hz3
     by_cases hz4 : decide (1 ≤ c) = true
     ·have z4 : decide (1 ≤ c) = true := hz4; clear hz4; have pz4 := of_decide_eq_true z4
      by_cases hz5 : decide (c ≤ 125) = true
      ·have z5 : decide (c ≤ 125) = true := hz5; clear hz5; have pz5 := of_decide_eq_true z5
       by_cases hz6 : spB a c = true
       ·have z6 : spB a c = true := hz6; clear hz6
        have HR : Aside0 (chkB 3 a c v t n o = true) := ⟨by simp_all [chkB, wB] <;> (intros; omega)⟩
        rw [HR.out]
        go_enter Try.func10, Try.ntmps10
        go_wp2_with (first | ((with_reducible refine gate_dst (N := 1) rfl ?_); refine bx_ (N := 1) (cs := #[.int .i64 3, .int .i64 a, .int .i64 c, .slice A v.length cc, .int .i64 t, .int .i64 n, .int .i64 o]) (t := 31) ?_; intro g hg w1 hb HB; have XB := Aside0.mk HB; have BK := Aside0.mk hb; obtain ⟨k0, k1, k2, k3, k4, k5, k6⟩ := cells7 hb; clear hg hb HB) | (go_at_call 28; refine (is_c _ _).mono ?_; rintro e w' ⟨rfl, rfl⟩) | (go_at_call 26; refine (refspan_c _ _ _ (by omega) (by omega)).mono ?_; rintro e w' ⟨rfl, rfl⟩))
        go_ret
        exact ⟨rfl, XB.out⟩
       ·have z6 : spB a c = false := by simpa using hz6
        clear hz6
        have HR : Aside0 (chkB 3 a c v t n o = false) := ⟨by simp_all [chkB, wB] <;> (intros; omega)⟩
        rw [HR.out]
        go_enter Try.func10, Try.ntmps10
        go_wp2_with (first | ((with_reducible refine gate_dst (N := 1) rfl ?_); refine bx_ (N := 1) (cs := #[.int .i64 3, .int .i64 a, .int .i64 c, .slice A v.length cc, .int .i64 t, .int .i64 n, .int .i64 o]) (t := 31) ?_; intro g hg w1 hb HB; have XB := Aside0.mk HB; have BK := Aside0.mk hb; obtain ⟨k0, k1, k2, k3, k4, k5, k6⟩ := cells7 hb; clear hg hb HB) | (go_at_call 28; refine (is_c _ _).mono ?_; rintro e w' ⟨rfl, rfl⟩) | (go_at_call 26; refine (refspan_c _ _ _ (by omega) (by omega)).mono ?_; rintro e w' ⟨rfl, rfl⟩))
        go_ret
        exact ⟨rfl, XB.out⟩
      ·have z5 : decide (c ≤ 125) = false := by simpa using hz5
       clear hz5
       have HR : Aside0 (chkB 3 a c v t n o = false) := ⟨by simp_all [chkB, wB] <;> (intros; omega)⟩
       rw [HR.out]
       go_enter Try.func10, Try.ntmps10
       go_wp2_with (first | ((with_reducible refine gate_dst (N := 1) rfl ?_); refine bx_ (N := 1) (cs := #[.int .i64 3, .int .i64 a, .int .i64 c, .slice A v.length cc, .int .i64 t, .int .i64 n, .int .i64 o]) (t := 31) ?_; intro g hg w1 hb HB; have XB := Aside0.mk HB; have BK := Aside0.mk hb; obtain ⟨k0, k1, k2, k3, k4, k5, k6⟩ := cells7 hb; clear hg hb HB) | (go_at_call 28; refine (is_c _ _).mono ?_; rintro e w' ⟨rfl, rfl⟩) | (go_at_call 26; refine (refspan_c _ _ _ (by omega) (by omega)).mono ?_; rintro e w' ⟨rfl, rfl⟩))
       go_ret
       exact ⟨rfl, XB.out⟩
     ·have z4 : decide (1 ≤ c) = false := by simpa using hz4
      clear hz4
      have HR : Aside0 (chkB 3 a c v t n o = false) := ⟨by simp_all [chkB, wB] <;> (intros; omega)⟩
      rw [HR.out]
      go_enter Try.func10, Try.ntmps10
      go_wp2_with (first | ((with_reducible refine gate_dst (N := 1) rfl ?_); refine bx_ (N := 1) (cs := #[.int .i64 3, .int .i64 a, .int .i64 c, .slice A v.length cc, .int .i64 t, .int .i64 n, .int .i64 o]) (t := 31) ?_; intro g hg w1 hb HB; have XB := Aside0.mk HB; have BK := Aside0.mk hb; obtain ⟨k0, k1, k2, k3, k4, k5, k6⟩ := cells7 hb; clear hg hb HB) | (go_at_call 28; refine (is_c _ _).mono ?_; rintro e w' ⟨rfl, rfl⟩) | (go_at_call 26; refine (refspan_c _ _ _ (by omega) (by omega)).mono ?_; rintro e w' ⟨rfl, rfl⟩))
      go_ret
      exact ⟨rfl, XB.out⟩
    ·have z3 : (t == 0) = false := by simpa using hz3
     clear hz3
     have HR : Aside0 (chkB 3 a c v t n o = false) := ⟨by simp_all [chkB, wB] <;> (intros; omega)⟩
     rw [HR.out]
     go_enter Try.func10, Try.ntmps10
     go_wp2_with (first | ((with_reducible refine gate_dst (N := 1) rfl ?_); refine bx_ (N := 1) (cs := #[.int .i64 3, .int .i64 a, .int .i64 c, .slice A v.length cc, .int .i64 t, .int .i64 n, .int .i64 o]) (t := 31) ?_; intro g hg w1 hb HB; have XB := Aside0.mk HB; have BK := Aside0.mk hb; obtain ⟨k0, k1, k2, k3, k4, k5, k6⟩ := cells7 hb; clear hg hb HB) | (go_at_call 28; refine (is_c _ _).mono ?_; rintro e w' ⟨rfl, rfl⟩) | (go_at_call 26; refine (refspan_c _ _ _ (by omega) (by omega)).mono ?_; rintro e w' ⟨rfl, rfl⟩))
     go_ret
     exact ⟨rfl, XB.out⟩
   ·have z2 : ((v.length : Int) == 0) = false := by simpa using hz2
    clear hz2
    have HR : Aside0 (chkB 3 a c v t n o = false) := ⟨by simp_all [chkB, wB] <;> (intros; omega)⟩
    rw [HR.out]
    go_enter Try.func10, Try.ntmps10
    go_wp2_with (first | ((with_reducible refine gate_dst (N := 1) rfl ?_); refine bx_ (N := 1) (cs := #[.int .i64 3, .int .i64 a, .int .i64 c, .slice A v.length cc, .int .i64 t, .int .i64 n, .int .i64 o]) (t := 31) ?_; intro g hg w1 hb HB; have XB := Aside0.mk HB; have BK := Aside0.mk hb; obtain ⟨k0, k1, k2, k3, k4, k5, k6⟩ := cells7 hb; clear hg hb HB) | (go_at_call 28; refine (is_c _ _).mono ?_; rintro e w' ⟨rfl, rfl⟩) | (go_at_call 26; refine (refspan_c _ _ _ (by omega) (by omega)).mono ?_; rintro e w' ⟨rfl, rfl⟩))
    go_ret
    exact ⟨rfl, XB.out⟩
  ·have z1 : (o == 0) = false := by simpa using hz1
   clear hz1
   by_cases hz2 : ((v.length : Int) == 0) = true
   ·have z2 : ((v.length : Int) == 0) = true := hz2; clear hz2
    have HR : Aside0 (chkB 3 a c v t n o = false) := ⟨by simp_all [chkB, wB] <;> (intros; omega)⟩
    rw [HR.out]
    go_enter Try.func10, Try.ntmps10
    go_wp2_with (first | ((with_reducible refine gate_dst (N := 1) rfl ?_); refine bx_ (N := 1) (cs := #[.int .i64 3, .int .i64 a, .int .i64 c, .slice A v.length cc, .int .i64 t, .int .i64 n, .int .i64 o]) (t := 31) ?_; intro g hg w1 hb HB; have XB := Aside0.mk HB; have BK := Aside0.mk hb; obtain ⟨k0, k1, k2, k3, k4, k5, k6⟩ := cells7 hb; clear hg hb HB) | (go_at_call 28; refine (is_c _ _).mono ?_; rintro e w' ⟨rfl, rfl⟩) | (go_at_call 26; refine (refspan_c _ _ _ (by omega) (by omega)).mono ?_; rintro e w' ⟨rfl, rfl⟩))
    go_ret
    exact ⟨rfl, XB.out⟩
   ·have z2 : ((v.length : Int) == 0) = false := by simpa using hz2
    clear hz2
    have HR : Aside0 (chkB 3 a c v t n o = false) := ⟨by simp_all [chkB, wB] <;> (intros; omega)⟩
    rw [HR.out]
    go_enter Try.func10, Try.ntmps10
    go_wp2_with (first | ((with_reducible refine gate_dst (N := 1) rfl ?_); refine bx_ (N := 1) (cs := #[.int .i64 3, .int .i64 a, .int .i64 c, .slice A v.length cc, .int .i64 t, .int .i64 n, .int .i64 o]) (t := 31) ?_; intro g hg w1 hb HB; have XB := Aside0.mk HB; have BK := Aside0.mk hb; obtain ⟨k0, k1, k2, k3, k4, k5, k6⟩ := cells7 hb; clear hg hb HB) | (go_at_call 28; refine (is_c _ _).mono ?_; rintro e w' ⟨rfl, rfl⟩) | (go_at_call 26; refine (refspan_c _ _ _ (by omega) (by omega)).mono ?_; rintro e w' ⟨rfl, rfl⟩))
    go_ret
    exact ⟨rfl, XB.out⟩
 ·have z0 : (n == 0) = false := by simpa using hz0
  clear hz0
  by_cases hz1 : ((v.length : Int) == 0) = true
  ·have z1 : ((v.length : Int) == 0) = true := hz1; clear hz1
   have HR : Aside0 (chkB 3 a c v t n o = false) := ⟨by simp_all [chkB, wB] <;> (intros; omega)⟩
   rw [HR.out]
   go_enter Try.func10, Try.ntmps10
   go_wp2_with (first | ((with_reducible refine gate_dst (N := 1) rfl ?_); refine bx_ (N := 1) (cs := #[.int .i64 3, .int .i64 a, .int .i64 c, .slice A v.length cc, .int .i64 t, .int .i64 n, .int .i64 o]) (t := 31) ?_; intro g hg w1 hb HB; have XB := Aside0.mk HB; have BK := Aside0.mk hb; obtain ⟨k0, k1, k2, k3, k4, k5, k6⟩ := cells7 hb; clear hg hb HB) | (go_at_call 28; refine (is_c _ _).mono ?_; rintro e w' ⟨rfl, rfl⟩) | (go_at_call 26; refine (refspan_c _ _ _ (by omega) (by omega)).mono ?_; rintro e w' ⟨rfl, rfl⟩))
   go_ret
   exact ⟨rfl, XB.out⟩
  ·have z1 : ((v.length : Int) == 0) = false := by simpa using hz1
   clear hz1
   have HR : Aside0 (chkB 3 a c v t n o = false) := ⟨by simp_all [chkB, wB] <;> (intros; omega)⟩
   rw [HR.out]
   go_enter Try.func10, Try.ntmps10
   go_wp2_with (first | ((with_reducible refine gate_dst (N := 1) rfl ?_); refine bx_ (N := 1) (cs := #[.int .i64 3, .int .i64 a, .int .i64 c, .slice A v.length cc, .int .i64 t, .int .i64 n, .int .i64 o]) (t := 31) ?_; intro g hg w1 hb HB; have XB := Aside0.mk HB; have BK := Aside0.mk hb; obtain ⟨k0, k1, k2, k3, k4, k5, k6⟩ := cells7 hb; clear hg hb HB) | (go_at_call 28; refine (is_c _ _).mono ?_; rintro e w' ⟨rfl, rfl⟩) | (go_at_call 26; refine (refspan_c _ _ _ (by omega) (by omega)).mono ?_; rintro e w' ⟨rfl, rfl⟩))
   go_ret
   exact ⟨rfl, XB.out⟩
set_option maxHeartbeats 4000000 in
set_option maxRecDepth 100000 in
theorem may_4 (a c : Int) (A : Option Addr) (cc : Nat) (v : List Int) (t n o : Int) (w : World) (hV : Kd.C (Kd.int .i64) w A v.length v) : Calls Try.prog 10 #[.agg #[.int .i64 4, .int .i64 a, .int .i64 c, .slice A v.length cc, .int .i64 t, .int .i64 n, .int .i64 o]] w fun e w' => e = .returned (.bool (chkB 4 a c v t n o)) ∧ Below w.heap.size w w' := by
 have HV := Aside0.mk hV; clear hV
 by_cases hz0 : (n == 0) = true
 ·have z0 : (n == 0) = true := hz0; clear hz0
  by_cases hz1 : (o == 0) = true
  ·have z1 : (o == 0) = true := hz1; clear hz1
   by_cases hz2 : ((v.length : Int) == 0) = true
   ·have z2 : ((v.length : Int) == 0) = true := hz2; clear hz2
    by_cases hz3 : (t == 0) = true
    ·have z3 : (t == 0) = true := hz3; clear hz3
     by_cases hz4 : decide (1 ≤ c) = true
     ·have z4 : decide (1 ≤ c) = true := hz4; clear hz4; have pz4 := of_decide_eq_true z4
      by_cases hz5 : decide (c ≤ 125) = true
      ·have z5 : decide (c ≤ 125) = true := hz5; clear hz5; have pz5 := of_decide_eq_true z5
       by_cases hz6 : spB a c = true
       ·have z6 : spB a c = true := hz6; clear hz6
        have HR : Aside0 (chkB 4 a c v t n o = true) := ⟨by simp_all [chkB, wB] <;> (intros; omega)⟩
        rw [HR.out]
        go_enter Try.func10, Try.ntmps10
        go_wp2_with (first | ((with_reducible refine gate_dst (N := 1) rfl ?_); refine bx_ (N := 1) (cs := #[.int .i64 4, .int .i64 a, .int .i64 c, .slice A v.length cc, .int .i64 t, .int .i64 n, .int .i64 o]) (t := 31) ?_; intro g hg w1 hb HB; have XB := Aside0.mk HB; have BK := Aside0.mk hb; obtain ⟨k0, k1, k2, k3, k4, k5, k6⟩ := cells7 hb; clear hg hb HB) | (go_at_call 28; refine (is_c _ _).mono ?_; rintro e w' ⟨rfl, rfl⟩) | (go_at_call 26; refine (refspan_c _ _ _ (by omega) (by omega)).mono ?_; rintro e w' ⟨rfl, rfl⟩))
        go_ret
        exact ⟨rfl, XB.out⟩
       ·have z6 : spB a c = false := by simpa using hz6
        clear hz6
        have HR : Aside0 (chkB 4 a c v t n o = false) := ⟨by simp_all [chkB, wB] <;> (intros; omega)⟩
        rw [HR.out]
        go_enter Try.func10, Try.ntmps10
        go_wp2_with (first | ((with_reducible refine gate_dst (N := 1) rfl ?_); refine bx_ (N := 1) (cs := #[.int .i64 4, .int .i64 a, .int .i64 c, .slice A v.length cc, .int .i64 t, .int .i64 n, .int .i64 o]) (t := 31) ?_; intro g hg w1 hb HB; have XB := Aside0.mk HB; have BK := Aside0.mk hb; obtain ⟨k0, k1, k2, k3, k4, k5, k6⟩ := cells7 hb; clear hg hb HB) | (go_at_call 28; refine (is_c _ _).mono ?_; rintro e w' ⟨rfl, rfl⟩) | (go_at_call 26; refine (refspan_c _ _ _ (by omega) (by omega)).mono ?_; rintro e w' ⟨rfl, rfl⟩))
        go_ret
        exact ⟨rfl, XB.out⟩
      ·have z5 : decide (c ≤ 125) = false := by simpa using hz5
       clear hz5
       have HR : Aside0 (chkB 4 a c v t n o = false) := ⟨by simp_all [chkB, wB] <;> (intros; omega)⟩
       rw [HR.out]
       go_enter Try.func10, Try.ntmps10
       go_wp2_with (first | ((with_reducible refine gate_dst (N := 1) rfl ?_); refine bx_ (N := 1) (cs := #[.int .i64 4, .int .i64 a, .int .i64 c, .slice A v.length cc, .int .i64 t, .int .i64 n, .int .i64 o]) (t := 31) ?_; intro g hg w1 hb HB; have XB := Aside0.mk HB; have BK := Aside0.mk hb; obtain ⟨k0, k1, k2, k3, k4, k5, k6⟩ := cells7 hb; clear hg hb HB) | (go_at_call 28; refine (is_c _ _).mono ?_; rintro e w' ⟨rfl, rfl⟩) | (go_at_call 26; refine (refspan_c _ _ _ (by omega) (by omega)).mono ?_; rintro e w' ⟨rfl, rfl⟩))
       go_ret
       exact ⟨rfl, XB.out⟩
     ·have z4 : decide (1 ≤ c) = false := by simpa using hz4
      clear hz4
      have HR : Aside0 (chkB 4 a c v t n o = false) := ⟨by simp_all [chkB, wB] <;> (intros; omega)⟩
      rw [HR.out]
      go_enter Try.func10, Try.ntmps10
      go_wp2_with (first | ((with_reducible refine gate_dst (N := 1) rfl ?_); refine bx_ (N := 1) (cs := #[.int .i64 4, .int .i64 a, .int .i64 c, .slice A v.length cc, .int .i64 t, .int .i64 n, .int .i64 o]) (t := 31) ?_; intro g hg w1 hb HB; have XB := Aside0.mk HB; have BK := Aside0.mk hb; obtain ⟨k0, k1, k2, k3, k4, k5, k6⟩ := cells7 hb; clear hg hb HB) | (go_at_call 28; refine (is_c _ _).mono ?_; rintro e w' ⟨rfl, rfl⟩) | (go_at_call 26; refine (refspan_c _ _ _ (by omega) (by omega)).mono ?_; rintro e w' ⟨rfl, rfl⟩))
      go_ret
      exact ⟨rfl, XB.out⟩
    ·have z3 : (t == 0) = false := by simpa using hz3
     clear hz3
     have HR : Aside0 (chkB 4 a c v t n o = false) := ⟨by simp_all [chkB, wB] <;> (intros; omega)⟩
     rw [HR.out]
     go_enter Try.func10, Try.ntmps10
     go_wp2_with (first | ((with_reducible refine gate_dst (N := 1) rfl ?_); refine bx_ (N := 1) (cs := #[.int .i64 4, .int .i64 a, .int .i64 c, .slice A v.length cc, .int .i64 t, .int .i64 n, .int .i64 o]) (t := 31) ?_; intro g hg w1 hb HB; have XB := Aside0.mk HB; have BK := Aside0.mk hb; obtain ⟨k0, k1, k2, k3, k4, k5, k6⟩ := cells7 hb; clear hg hb HB) | (go_at_call 28; refine (is_c _ _).mono ?_; rintro e w' ⟨rfl, rfl⟩) | (go_at_call 26; refine (refspan_c _ _ _ (by omega) (by omega)).mono ?_; rintro e w' ⟨rfl, rfl⟩))
     go_ret
     exact ⟨rfl, XB.out⟩
   ·have z2 : ((v.length : Int) == 0) = false := by simpa using hz2
    clear hz2
    have HR : Aside0 (chkB 4 a c v t n o = false) := ⟨by simp_all [chkB, wB] <;> (intros; omega)⟩
    rw [HR.out]
    go_enter Try.func10, Try.ntmps10
    go_wp2_with (first | ((with_reducible refine gate_dst (N := 1) rfl ?_); refine bx_ (N := 1) (cs := #[.int .i64 4, .int .i64 a, .int .i64 c, .slice A v.length cc, .int .i64 t, .int .i64 n, .int .i64 o]) (t := 31) ?_; intro g hg w1 hb HB; have XB := Aside0.mk HB; have BK := Aside0.mk hb; obtain ⟨k0, k1, k2, k3, k4, k5, k6⟩ := cells7 hb; clear hg hb HB) | (go_at_call 28; refine (is_c _ _).mono ?_; rintro e w' ⟨rfl, rfl⟩) | (go_at_call 26; refine (refspan_c _ _ _ (by omega) (by omega)).mono ?_; rintro e w' ⟨rfl, rfl⟩))
    go_ret
    exact ⟨rfl, XB.out⟩
  ·have z1 : (o == 0) = false := by simpa using hz1
   clear hz1
   by_cases hz2 : ((v.length : Int) == 0) = true
   ·have z2 : ((v.length : Int) == 0) = true := hz2; clear hz2
    have HR : Aside0 (chkB 4 a c v t n o = false) := ⟨by simp_all [chkB, wB] <;> (intros; omega)⟩
    rw [HR.out]
    go_enter Try.func10, Try.ntmps10
    go_wp2_with (first | ((with_reducible refine gate_dst (N := 1) rfl ?_); refine bx_ (N := 1) (cs := #[.int .i64 4, .int .i64 a, .int .i64 c, .slice A v.length cc, .int .i64 t, .int .i64 n, .int .i64 o]) (t := 31) ?_; intro g hg w1 hb HB; have XB := Aside0.mk HB; have BK := Aside0.mk hb; obtain ⟨k0, k1, k2, k3, k4, k5, k6⟩ := cells7 hb; clear hg hb HB) | (go_at_call 28; refine (is_c _ _).mono ?_; rintro e w' ⟨rfl, rfl⟩) | (go_at_call 26; refine (refspan_c _ _ _ (by omega) (by omega)).mono ?_; rintro e w' ⟨rfl, rfl⟩))
    go_ret
    exact ⟨rfl, XB.out⟩
   ·have z2 : ((v.length : Int) == 0) = false := by simpa using hz2
    clear hz2
    have HR : Aside0 (chkB 4 a c v t n o = false) := ⟨by simp_all [chkB, wB] <;> (intros; omega)⟩
    rw [HR.out]
    go_enter Try.func10, Try.ntmps10
    go_wp2_with (first | ((with_reducible refine gate_dst (N := 1) rfl ?_); refine bx_ (N := 1) (cs := #[.int .i64 4, .int .i64 a, .int .i64 c, .slice A v.length cc, .int .i64 t, .int .i64 n, .int .i64 o]) (t := 31) ?_; intro g hg w1 hb HB; have XB := Aside0.mk HB; have BK := Aside0.mk hb; obtain ⟨k0, k1, k2, k3, k4, k5, k6⟩ := cells7 hb; clear hg hb HB) | (go_at_call 28; refine (is_c _ _).mono ?_; rintro e w' ⟨rfl, rfl⟩) | (go_at_call 26; refine (refspan_c _ _ _ (by omega) (by omega)).mono ?_; rintro e w' ⟨rfl, rfl⟩))
    go_ret
    exact ⟨rfl, XB.out⟩
 ·have z0 : (n == 0) = false := by simpa using hz0
  clear hz0
  by_cases hz1 : ((v.length : Int) == 0) = true
  ·have z1 : ((v.length : Int) == 0) = true := hz1; clear hz1
   have HR : Aside0 (chkB 4 a c v t n o = false) := ⟨by simp_all [chkB, wB] <;> (intros; omega)⟩
   rw [HR.out]
   go_enter Try.func10, Try.ntmps10
   go_wp2_with (first | ((with_reducible refine gate_dst (N := 1) rfl ?_); refine bx_ (N := 1) (cs := #[.int .i64 4, .int .i64 a, .int .i64 c, .slice A v.length cc, .int .i64 t, .int .i64 n, .int .i64 o]) (t := 31) ?_; intro g hg w1 hb HB; have XB := Aside0.mk HB; have BK := Aside0.mk hb; obtain ⟨k0, k1, k2, k3, k4, k5, k6⟩ := cells7 hb; clear hg hb HB) | (go_at_call 28; refine (is_c _ _).mono ?_; rintro e w' ⟨rfl, rfl⟩) | (go_at_call 26; refine (refspan_c _ _ _ (by omega) (by omega)).mono ?_; rintro e w' ⟨rfl, rfl⟩))
   go_ret
   exact ⟨rfl, XB.out⟩
  ·have z1 : ((v.length : Int) == 0) = false := by simpa using hz1
   clear hz1
   have HR : Aside0 (chkB 4 a c v t n o = false) := ⟨by simp_all [chkB, wB] <;> (intros; omega)⟩
   rw [HR.out]
   go_enter Try.func10, Try.ntmps10
   go_wp2_with (first | ((with_reducible refine gate_dst (N := 1) rfl ?_); refine bx_ (N := 1) (cs := #[.int .i64 4, .int .i64 a, .int .i64 c, .slice A v.length cc, .int .i64 t, .int .i64 n, .int .i64 o]) (t := 31) ?_; intro g hg w1 hb HB; have XB := Aside0.mk HB; have BK := Aside0.mk hb; obtain ⟨k0, k1, k2, k3, k4, k5, k6⟩ := cells7 hb; clear hg hb HB) | (go_at_call 28; refine (is_c _ _).mono ?_; rintro e w' ⟨rfl, rfl⟩) | (go_at_call 26; refine (refspan_c _ _ _ (by omega) (by omega)).mono ?_; rintro e w' ⟨rfl, rfl⟩))
   go_ret
   exact ⟨rfl, XB.out⟩
end Go.Proofs.Ytlalpooiegganaa.Chk
end

section
namespace Go.Proofs.Ytlalpooiegganaa.Chk
open Go.RowKit Go.Proofs.YtlalpooiegganaaW.PrintWords Go.Proofs.YtlalpooiegganaaW.PrintLast Go.Proofs.YtlalpooiegganaaW.PrintMore Go.Proofs.Ytlalpooiegganaa.Core Go.Proofs.Ytlalpooiegganaa.Wk
set_option linter.unusedVariables false
set_option linter.unusedSimpArgs false
set_option maxHeartbeats 4000000 in
set_option maxRecDepth 100000 in
theorem may_5 (a c : Int) (A : Option Addr) (cc : Nat) (v : List Int) (t n o : Int) (w : World) (hV : Kd.C (Kd.int .i64) w A v.length v) : Calls Try.prog 10 #[.agg #[.int .i64 5, .int .i64 a, .int .i64 c, .slice A v.length cc, .int .i64 t, .int .i64 n, .int .i64 o]] w fun e w' => e = .returned (.bool (chkB 5 a c v t n o)) ∧ Below w.heap.size w w' := by
 have HV := Aside0.mk hV; clear hV
 by_cases hz0 : (n == 0) = true
 ·have z0 : (n == 0) = true := hz0; clear hz0
  by_cases hz1 : (o == 0) = true
  ·have z1 : (o == 0) = true := hz1; clear hz1
   by_cases hz2 : (t == 0) = true
   ·have z2 : (t == 0) = true := hz2; clear hz2
    by_cases hz3 : (c == 0) = true
    ·have z3 : (c == 0) = true := hz3; clear hz3
     by_cases hz4 : smB 1 1 1 v = true
     ·have z4 : smB 1 1 1 v = true := hz4; clear hz4; have pz4 := smB_len z4
      by_cases hz5 : spB a 1 = true
      ·have z5 : spB a 1 = true := hz5; clear hz5
       have HR : Aside0 (chkB 5 a c v t n o = true) := ⟨by simp_all [chkB, wB] <;> (intros; omega)⟩
       rw [HR.out]
       go_enter Try.func10, Try.ntmps10
       go_wp2_with (first | ((with_reducible refine gate_dst (N := 1) rfl ?_); refine bx_ (N := 1) (cs := #[.int .i64 5, .int .i64 a, .int .i64 c, .slice A v.length cc, .int .i64 t, .int .i64 n, .int .i64 o]) (t := 31) ?_; intro g hg w1 hb HB; have XB := Aside0.mk HB; have BK := Aside0.mk hb; obtain ⟨k0, k1, k2, k3, k4, k5, k6⟩ := cells7 hb; clear hg hb HB) | (go_at_call 28; refine (is_c _ _).mono ?_; rintro e w' ⟨rfl, rfl⟩) | (go_at_call 26; refine (refspan_c _ _ _ (by omega) (by omega)).mono ?_; rintro e w' ⟨rfl, rfl⟩) | (go_at_call 27; refine (vals_c 5 a c A cc v t n o _ _ _ (Kd.C_below HV.out XB.out) (m := 1) (by decide)).mono ?_; rintro e w2 ⟨rfl, HB⟩; have XBn := Aside0.mk (below_step XB.out HB); have BKn := Aside0.mk (blk_below BK.out HB); obtain ⟨k0, k1, k2, k3, k4, k5, k6⟩ := cells7 BKn.out; clear HB XB BK; have XB := XBn; have BK := BKn))
       go_ret
       exact ⟨rfl, XB.out⟩
      ·have z5 : spB a 1 = false := by simpa using hz5
       clear hz5
       have HR : Aside0 (chkB 5 a c v t n o = false) := ⟨by simp_all [chkB, wB] <;> (intros; omega)⟩
       rw [HR.out]
       go_enter Try.func10, Try.ntmps10
       go_wp2_with (first | ((with_reducible refine gate_dst (N := 1) rfl ?_); refine bx_ (N := 1) (cs := #[.int .i64 5, .int .i64 a, .int .i64 c, .slice A v.length cc, .int .i64 t, .int .i64 n, .int .i64 o]) (t := 31) ?_; intro g hg w1 hb HB; have XB := Aside0.mk HB; have BK := Aside0.mk hb; obtain ⟨k0, k1, k2, k3, k4, k5, k6⟩ := cells7 hb; clear hg hb HB) | (go_at_call 28; refine (is_c _ _).mono ?_; rintro e w' ⟨rfl, rfl⟩) | (go_at_call 26; refine (refspan_c _ _ _ (by omega) (by omega)).mono ?_; rintro e w' ⟨rfl, rfl⟩) | (go_at_call 27; refine (vals_c 5 a c A cc v t n o _ _ _ (Kd.C_below HV.out XB.out) (m := 1) (by decide)).mono ?_; rintro e w2 ⟨rfl, HB⟩; have XBn := Aside0.mk (below_step XB.out HB); have BKn := Aside0.mk (blk_below BK.out HB); obtain ⟨k0, k1, k2, k3, k4, k5, k6⟩ := cells7 BKn.out; clear HB XB BK; have XB := XBn; have BK := BKn))
       go_ret
       exact ⟨rfl, XB.out⟩
     ·have z4 : smB 1 1 1 v = false := by simpa using hz4
      clear hz4
      have HR : Aside0 (chkB 5 a c v t n o = false) := ⟨by simp_all [chkB, wB] <;> (intros; omega)⟩
      rw [HR.out]
      go_enter Try.func10, Try.ntmps10
      go_wp2_with (first | ((with_reducible refine gate_dst (N := 1) rfl ?_); refine bx_ (N := 1) (cs := #[.int .i64 5, .int .i64 a, .int .i64 c, .slice A v.length cc, .int .i64 t, .int .i64 n, .int .i64 o]) (t := 31) ?_; intro g hg w1 hb HB; have XB := Aside0.mk HB; have BK := Aside0.mk hb; obtain ⟨k0, k1, k2, k3, k4, k5, k6⟩ := cells7 hb; clear hg hb HB) | (go_at_call 28; refine (is_c _ _).mono ?_; rintro e w' ⟨rfl, rfl⟩) | (go_at_call 26; refine (refspan_c _ _ _ (by omega) (by omega)).mono ?_; rintro e w' ⟨rfl, rfl⟩) | (go_at_call 27; refine (vals_c 5 a c A cc v t n o _ _ _ (Kd.C_below HV.out XB.out) (m := 1) (by decide)).mono ?_; rintro e w2 ⟨rfl, HB⟩; have XBn := Aside0.mk (below_step XB.out HB); have BKn := Aside0.mk (blk_below BK.out HB); obtain ⟨k0, k1, k2, k3, k4, k5, k6⟩ := cells7 BKn.out; clear HB XB BK; have XB := XBn; have BK := BKn))
      go_ret
      exact ⟨rfl, XB.out⟩
    ·have z3 : (c == 0) = false := by simpa using hz3
     clear hz3
     have HR : Aside0 (chkB 5 a c v t n o = false) := ⟨by simp_all [chkB, wB] <;> (intros; omega)⟩
     rw [HR.out]
     go_enter Try.func10, Try.ntmps10
     go_wp2_with (first | ((with_reducible refine gate_dst (N := 1) rfl ?_); refine bx_ (N := 1) (cs := #[.int .i64 5, .int .i64 a, .int .i64 c, .slice A v.length cc, .int .i64 t, .int .i64 n, .int .i64 o]) (t := 31) ?_; intro g hg w1 hb HB; have XB := Aside0.mk HB; have BK := Aside0.mk hb; obtain ⟨k0, k1, k2, k3, k4, k5, k6⟩ := cells7 hb; clear hg hb HB) | (go_at_call 28; refine (is_c _ _).mono ?_; rintro e w' ⟨rfl, rfl⟩) | (go_at_call 26; refine (refspan_c _ _ _ (by omega) (by omega)).mono ?_; rintro e w' ⟨rfl, rfl⟩) | (go_at_call 27; refine (vals_c 5 a c A cc v t n o _ _ _ (Kd.C_below HV.out XB.out) (m := 1) (by decide)).mono ?_; rintro e w2 ⟨rfl, HB⟩; have XBn := Aside0.mk (below_step XB.out HB); have BKn := Aside0.mk (blk_below BK.out HB); obtain ⟨k0, k1, k2, k3, k4, k5, k6⟩ := cells7 BKn.out; clear HB XB BK; have XB := XBn; have BK := BKn))
     go_ret
     exact ⟨rfl, XB.out⟩
   ·have z2 : (t == 0) = false := by simpa using hz2
    clear hz2
    have HR : Aside0 (chkB 5 a c v t n o = false) := ⟨by simp_all [chkB, wB] <;> (intros; omega)⟩
    rw [HR.out]
    go_enter Try.func10, Try.ntmps10
    go_wp2_with (first | ((with_reducible refine gate_dst (N := 1) rfl ?_); refine bx_ (N := 1) (cs := #[.int .i64 5, .int .i64 a, .int .i64 c, .slice A v.length cc, .int .i64 t, .int .i64 n, .int .i64 o]) (t := 31) ?_; intro g hg w1 hb HB; have XB := Aside0.mk HB; have BK := Aside0.mk hb; obtain ⟨k0, k1, k2, k3, k4, k5, k6⟩ := cells7 hb; clear hg hb HB) | (go_at_call 28; refine (is_c _ _).mono ?_; rintro e w' ⟨rfl, rfl⟩) | (go_at_call 26; refine (refspan_c _ _ _ (by omega) (by omega)).mono ?_; rintro e w' ⟨rfl, rfl⟩) | (go_at_call 27; refine (vals_c 5 a c A cc v t n o _ _ _ (Kd.C_below HV.out XB.out) (m := 1) (by decide)).mono ?_; rintro e w2 ⟨rfl, HB⟩; have XBn := Aside0.mk (below_step XB.out HB); have BKn := Aside0.mk (blk_below BK.out HB); obtain ⟨k0, k1, k2, k3, k4, k5, k6⟩ := cells7 BKn.out; clear HB XB BK; have XB := XBn; have BK := BKn))
    go_ret
    exact ⟨rfl, XB.out⟩
  ·have z1 : (o == 0) = false := by simpa using hz1
   clear hz1
   have HR : Aside0 (chkB 5 a c v t n o = false) := ⟨by simp_all [chkB, wB] <;> (intros; omega)⟩
   rw [HR.out]
   go_enter Try.func10, Try.ntmps10
   go_wp2_with (first | ((with_reducible refine gate_dst (N := 1) rfl ?_); refine bx_ (N := 1) (cs := #[.int .i64 5, .int .i64 a, .int .i64 c, .slice A v.length cc, .int .i64 t, .int .i64 n, .int .i64 o]) (t := 31) ?_; intro g hg w1 hb HB; have XB := Aside0.mk HB; have BK := Aside0.mk hb; obtain ⟨k0, k1, k2, k3, k4, k5, k6⟩ := cells7 hb; clear hg hb HB) | (go_at_call 28; refine (is_c _ _).mono ?_; rintro e w' ⟨rfl, rfl⟩) | (go_at_call 26; refine (refspan_c _ _ _ (by omega) (by omega)).mono ?_; rintro e w' ⟨rfl, rfl⟩) | (go_at_call 27; refine (vals_c 5 a c A cc v t n o _ _ _ (Kd.C_below HV.out XB.out) (m := 1) (by decide)).mono ?_; rintro e w2 ⟨rfl, HB⟩; have XBn := Aside0.mk (below_step XB.out HB); have BKn := Aside0.mk (blk_below BK.out HB); obtain ⟨k0, k1, k2, k3, k4, k5, k6⟩ := cells7 BKn.out; clear HB XB BK; have XB := XBn; have BK := BKn))
   go_ret
   exact ⟨rfl, XB.out⟩
 ·have z0 : (n == 0) = false := by simpa using hz0
  clear hz0
  have HR : Aside0 (chkB 5 a c v t n o = false) := ⟨by simp_all [chkB, wB] <;> (intros; omega)⟩
  rw [HR.out]
  go_enter Try.func10, Try.ntmps10
  go_wp2_with (first | ((with_reducible refine gate_dst (N := 1) rfl ?_); refine bx_ (N := 1) (cs := #[.int .i64 5, .int .i64 a, .int .i64 c, .slice A v.length cc, .int .i64 t, .int .i64 n, .int .i64 o]) (t := 31) ?_; intro g hg w1 hb HB; have XB := Aside0.mk HB; have BK := Aside0.mk hb; obtain ⟨k0, k1, k2, k3, k4, k5, k6⟩ := cells7 hb; clear hg hb HB) | (go_at_call 28; refine (is_c _ _).mono ?_; rintro e w' ⟨rfl, rfl⟩) | (go_at_call 26; refine (refspan_c _ _ _ (by omega) (by omega)).mono ?_; rintro e w' ⟨rfl, rfl⟩) | (go_at_call 27; refine (vals_c 5 a c A cc v t n o _ _ _ (Kd.C_below HV.out XB.out) (m := 1) (by decide)).mono ?_; rintro e w2 ⟨rfl, HB⟩; have XBn := Aside0.mk (below_step XB.out HB); have BKn := Aside0.mk (blk_below BK.out HB); obtain ⟨k0, k1, k2, k3, k4, k5, k6⟩ := cells7 BKn.out; clear HB XB BK; have XB := XBn; have BK := BKn))
  go_ret
  exact ⟨rfl, XB.out⟩
set_option maxHeartbeats 4000000 in
set_option maxRecDepth 100000 in
theorem may_6 (a c : Int) (A : Option Addr) (cc : Nat) (v : List Int) (t n o : Int) (w : World) (hV : Kd.C (Kd.int .i64) w A v.length v) : Calls Try.prog 10 #[.agg #[.int .i64 6, .int .i64 a, .int .i64 c, .slice A v.length cc, .int .i64 t, .int .i64 n, .int .i64 o]] w fun e w' => e = .returned (.bool (chkB 6 a c v t n o)) ∧ Below w.heap.size w w' := by
 have HV := Aside0.mk hV; clear hV
 by_cases hz0 : (n == 0) = true
 ·have z0 : (n == 0) = true := hz0; clear hz0
  by_cases hz1 : (o == 0) = true
  ·have z1 : (o == 0) = true := hz1; clear hz1
   by_cases hz2 : (t == 0) = true
   ·have z2 : (t == 0) = true := hz2; clear hz2
    by_cases hz3 : (c == 0) = true
    ·have z3 : (c == 0) = true := hz3; clear hz3
     by_cases hz4 : smB 1 1 65535 v = true
     ·have z4 : smB 1 1 65535 v = true := hz4; clear hz4; have pz4 := smB_len z4
      by_cases hz5 : spB a 1 = true
      ·have z5 : spB a 1 = true := hz5; clear hz5
       have HR : Aside0 (chkB 6 a c v t n o = true) := ⟨by simp_all [chkB, wB] <;> (intros; omega)⟩
       rw [HR.out]
       go_enter Try.func10, Try.ntmps10
       go_wp2_with (first | ((with_reducible refine gate_dst (N := 1) rfl ?_); refine bx_ (N := 1) (cs := #[.int .i64 6, .int .i64 a, .int .i64 c, .slice A v.length cc, .int .i64 t, .int .i64 n, .int .i64 o]) (t := 31) ?_; intro g hg w1 hb HB; have XB := Aside0.mk HB; have BK := Aside0.mk hb; obtain ⟨k0, k1, k2, k3, k4, k5, k6⟩ := cells7 hb; clear hg hb HB) | (go_at_call 28; refine (is_c _ _).mono ?_; rintro e w' ⟨rfl, rfl⟩) | (go_at_call 26; refine (refspan_c _ _ _ (by omega) (by omega)).mono ?_; rintro e w' ⟨rfl, rfl⟩) | (go_at_call 27; refine (vals_c 6 a c A cc v t n o _ _ _ (Kd.C_below HV.out XB.out) (m := 65535) (by decide)).mono ?_; rintro e w2 ⟨rfl, HB⟩; have XBn := Aside0.mk (below_step XB.out HB); have BKn := Aside0.mk (blk_below BK.out HB); obtain ⟨k0, k1, k2, k3, k4, k5, k6⟩ := cells7 BKn.out; clear HB XB BK; have XB := XBn; have BK := BKn))
       go_ret
       exact ⟨rfl, XB.out⟩
      ·have z5 : spB a 1 = false := by simpa using hz5
       clear hz5
       have HR : Aside0 (chkB 6 a c v t n o = false) := ⟨by simp_all [chkB, wB] <;> (intros; omega)⟩
       rw [HR.out]
       go_enter Try.func10, Try.ntmps10
       go_wp2_with (first | ((with_reducible refine gate_dst (N := 1) rfl ?_); refine bx_ (N := 1) (cs := #[.int .i64 6, .int .i64 a, .int .i64 c, .slice A v.length cc, .int .i64 t, .int .i64 n, .int .i64 o]) (t := 31) ?_; intro g hg w1 hb HB; have XB := Aside0.mk HB; have BK := Aside0.mk hb; obtain ⟨k0, k1, k2, k3, k4, k5, k6⟩ := cells7 hb; clear hg hb HB) | (go_at_call 28; refine (is_c _ _).mono ?_; rintro e w' ⟨rfl, rfl⟩) | (go_at_call 26; refine (refspan_c _ _ _ (by omega) (by omega)).mono ?_; rintro e w' ⟨rfl, rfl⟩) | (go_at_call 27; refine (vals_c 6 a c A cc v t n o _ _ _ (Kd.C_below HV.out XB.out) (m := 65535) (by decide)).mono ?_; rintro e w2 ⟨rfl, HB⟩; have XBn := Aside0.mk (below_step XB.out HB); have BKn := Aside0.mk (blk_below BK.out HB); obtain ⟨k0, k1, k2, k3, k4, k5, k6⟩ := cells7 BKn.out; clear HB XB BK; have XB := XBn; have BK := BKn))
       go_ret
       exact ⟨rfl, XB.out⟩
     ·have z4 : smB 1 1 65535 v = false := by simpa using hz4
      clear hz4
      have HR : Aside0 (chkB 6 a c v t n o = false) := ⟨by simp_all [chkB, wB] <;> (intros; omega)⟩
      rw [HR.out]
      go_enter Try.func10, Try.ntmps10
      go_wp2_with (first | ((with_reducible refine gate_dst (N := 1) rfl ?_); refine bx_ (N := 1) (cs := #[.int .i64 6, .int .i64 a, .int .i64 c, .slice A v.length cc, .int .i64 t, .int .i64 n, .int .i64 o]) (t := 31) ?_; intro g hg w1 hb HB; have XB := Aside0.mk HB; have BK := Aside0.mk hb; obtain ⟨k0, k1, k2, k3, k4, k5, k6⟩ := cells7 hb; clear hg hb HB) | (go_at_call 28; refine (is_c _ _).mono ?_; rintro e w' ⟨rfl, rfl⟩) | (go_at_call 26; refine (refspan_c _ _ _ (by omega) (by omega)).mono ?_; rintro e w' ⟨rfl, rfl⟩) | (go_at_call 27; refine (vals_c 6 a c A cc v t n o _ _ _ (Kd.C_below HV.out XB.out) (m := 65535) (by decide)).mono ?_; rintro e w2 ⟨rfl, HB⟩; have XBn := Aside0.mk (below_step XB.out HB); have BKn := Aside0.mk (blk_below BK.out HB); obtain ⟨k0, k1, k2, k3, k4, k5, k6⟩ := cells7 BKn.out; clear HB XB BK; have XB := XBn; have BK := BKn))
      go_ret
      exact ⟨rfl, XB.out⟩
    ·have z3 : (c == 0) = false := by simpa using hz3
     clear hz3
     have HR : Aside0 (chkB 6 a c v t n o = false) := ⟨by simp_all [chkB, wB] <;> (intros; omega)⟩
     rw [HR.out]
     go_enter Try.func10, Try.ntmps10
     go_wp2_with (first | ((with_reducible refine gate_dst (N := 1) rfl ?_); refine bx_ (N := 1) (cs := #[.int .i64 6, .int .i64 a, .int .i64 c, .slice A v.length cc, .int .i64 t, .int .i64 n, .int .i64 o]) (t := 31) ?_; intro g hg w1 hb HB; have XB := Aside0.mk HB; have BK := Aside0.mk hb; obtain ⟨k0, k1, k2, k3, k4, k5, k6⟩ := cells7 hb; clear hg hb HB) | (go_at_call 28; refine (is_c _ _).mono ?_; rintro e w' ⟨rfl, rfl⟩) | (go_at_call 26; refine (refspan_c _ _ _ (by omega) (by omega)).mono ?_; rintro e w' ⟨rfl, rfl⟩) | (go_at_call 27; refine (vals_c 6 a c A cc v t n o _ _ _ (Kd.C_below HV.out XB.out) (m := 65535) (by decide)).mono ?_; rintro e w2 ⟨rfl, HB⟩; have XBn := Aside0.mk (below_step XB.out HB); have BKn := Aside0.mk (blk_below BK.out HB); obtain ⟨k0, k1, k2, k3, k4, k5, k6⟩ := cells7 BKn.out; clear HB XB BK; have XB := XBn; have BK := BKn))
     go_ret
     exact ⟨rfl, XB.out⟩
   ·have z2 : (t == 0) = false := by simpa using hz2
    clear hz2
    have HR : Aside0 (chkB 6 a c v t n o = false) := ⟨by simp_all [chkB, wB] <;> (intros; omega)⟩
    rw [HR.out]
    go_enter Try.func10, Try.ntmps10
    go_wp2_with (first | ((with_reducible refine gate_dst (N := 1) rfl ?_); refine bx_ (N := 1) (cs := #[.int .i64 6, .int .i64 a, .int .i64 c, .slice A v.length cc, .int .i64 t, .int .i64 n, .int .i64 o]) (t := 31) ?_; intro g hg w1 hb HB; have XB := Aside0.mk HB; have BK := Aside0.mk hb; obtain ⟨k0, k1, k2, k3, k4, k5, k6⟩ := cells7 hb; clear hg hb HB) | (go_at_call 28; refine (is_c _ _).mono ?_; rintro e w' ⟨rfl, rfl⟩) | (go_at_call 26; refine (refspan_c _ _ _ (by omega) (by omega)).mono ?_; rintro e w' ⟨rfl, rfl⟩) | (go_at_call 27; refine (vals_c 6 a c A cc v t n o _ _ _ (Kd.C_below HV.out XB.out) (m := 65535) (by decide)).mono ?_; rintro e w2 ⟨rfl, HB⟩; have XBn := Aside0.mk (below_step XB.out HB); have BKn := Aside0.mk (blk_below BK.out HB); obtain ⟨k0, k1, k2, k3, k4, k5, k6⟩ := cells7 BKn.out; clear HB XB BK; have XB := XBn; have BK := BKn))
    go_ret
    exact ⟨rfl, XB.out⟩
  ·have z1 : (o == 0) = false := by simpa using hz1
   clear hz1
   have HR : Aside0 (chkB 6 a c v t n o = false) := ⟨by simp_all [chkB, wB] <;> (intros; omega)⟩
   rw [HR.out]
   go_enter Try.func10, Try.ntmps10
   go_wp2_with (first | ((with_reducible refine gate_dst (N := 1) rfl ?_); refine bx_ (N := 1) (cs := #[.int .i64 6, .int .i64 a, .int .i64 c, .slice A v.length cc, .int .i64 t, .int .i64 n, .int .i64 o]) (t := 31) ?_; intro g hg w1 hb HB; have XB := Aside0.mk HB; have BK := Aside0.mk hb; obtain ⟨k0, k1, k2, k3, k4, k5, k6⟩ := cells7 hb; clear hg hb HB) | (go_at_call 28; refine (is_c _ _).mono ?_; rintro e w' ⟨rfl, rfl⟩) | (go_at_call 26; refine (refspan_c _ _ _ (by omega) (by omega)).mono ?_; rintro e w' ⟨rfl, rfl⟩) | (go_at_call 27; refine (vals_c 6 a c A cc v t n o _ _ _ (Kd.C_below HV.out XB.out) (m := 65535) (by decide)).mono ?_; rintro e w2 ⟨rfl, HB⟩; have XBn := Aside0.mk (below_step XB.out HB); have BKn := Aside0.mk (blk_below BK.out HB); obtain ⟨k0, k1, k2, k3, k4, k5, k6⟩ := cells7 BKn.out; clear HB XB BK; have XB := XBn; have BK := BKn))
   go_ret
   exact ⟨rfl, XB.out⟩
 ·have z0 : (n == 0) = false := by simpa using hz0
  clear hz0
  have HR : Aside0 (chkB 6 a c v t n o = false) := ⟨by simp_all [chkB, wB] <;> (intros; omega)⟩
  rw [HR.out]
  go_enter Try.func10, Try.ntmps10
  go_wp2_with (first | ((with_reducible refine gate_dst (N := 1) rfl ?_); refine bx_ (N := 1) (cs := #[.int .i64 6, .int .i64 a, .int .i64 c, .slice A v.length cc, .int .i64 t, .int .i64 n, .int .i64 o]) (t := 31) ?_; intro g hg w1 hb HB; have XB := Aside0.mk HB; have BK := Aside0.mk hb; obtain ⟨k0, k1, k2, k3, k4, k5, k6⟩ := cells7 hb; clear hg hb HB) | (go_at_call 28; refine (is_c _ _).mono ?_; rintro e w' ⟨rfl, rfl⟩) | (go_at_call 26; refine (refspan_c _ _ _ (by omega) (by omega)).mono ?_; rintro e w' ⟨rfl, rfl⟩) | (go_at_call 27; refine (vals_c 6 a c A cc v t n o _ _ _ (Kd.C_below HV.out XB.out) (m := 65535) (by decide)).mono ?_; rintro e w2 ⟨rfl, HB⟩; have XBn := Aside0.mk (below_step XB.out HB); have BKn := Aside0.mk (blk_below BK.out HB); obtain ⟨k0, k1, k2, k3, k4, k5, k6⟩ := cells7 BKn.out; clear HB XB BK; have XB := XBn; have BK := BKn))
  go_ret
  exact ⟨rfl, XB.out⟩
end Go.Proofs.Ytlalpooiegganaa.Chk
end

section
namespace Go.Proofs.Ytlalpooiegganaa.Chk
open Go.RowKit Go.Proofs.YtlalpooiegganaaW.PrintWords Go.Proofs.YtlalpooiegganaaW.PrintLast Go.Proofs.YtlalpooiegganaaW.PrintMore Go.Proofs.Ytlalpooiegganaa.Core Go.Proofs.Ytlalpooiegganaa.Wk
set_option linter.unusedVariables false
set_option linter.unusedSimpArgs false
set_option maxHeartbeats 4000000 in
set_option maxRecDepth 100000 in
theorem may_15 (a c : Int) (A : Option Addr) (cc : Nat) (v : List Int) (t n o : Int) (w : World) (hV : Kd.C (Kd.int .i64) w A v.length v) : Calls Try.prog 10 #[.agg #[.int .i64 15, .int .i64 a, .int .i64 c, .slice A v.length cc, .int .i64 t, .int .i64 n, .int .i64 o]] w fun e w' => e = .returned (.bool (chkB 15 a c v t n o)) ∧ Below w.heap.size w w' := by
 have HV := Aside0.mk hV; clear hV
 by_cases hz0 : (n == 0) = true
 ·have z0 : (n == 0) = true := hz0; clear hz0
  by_cases hz1 : (o == 0) = true
  ·have z1 : (o == 0) = true := hz1; clear hz1
   by_cases hz2 : (t == 0) = true
   ·have z2 : (t == 0) = true := hz2; clear hz2
    by_cases hz3 : (c == (v.length : Int)) = true
    ·have z3 : (c == (v.length : Int)) = true := hz3; clear hz3
     by_cases hz4 : smB 1 1968 1 v = true
     ·have z4 : smB 1 1968 1 v = true := hz4; clear hz4; have pz4 := smB_len z4
      by_cases hz5 : spB a v.length = true
      ·have z5 : spB a v.length = true := hz5; clear hz5
       have HR : Aside0 (chkB 15 a c v t n o = true) := ⟨by simp_all [chkB, wB] <;> (intros; omega)⟩
       rw [HR.out]
       go_enter Try.func10, Try.ntmps10
       go_wp2_with (first | ((with_reducible refine gate_dst (N := 1) rfl ?_); refine bx_ (N := 1) (cs := #[.int .i64 15, .int .i64 a, .int .i64 c, .slice A v.length cc, .int .i64 t, .int .i64 n, .int .i64 o]) (t := 31) ?_; intro g hg w1 hb HB; have XB := Aside0.mk HB; have BK := Aside0.mk hb; obtain ⟨k0, k1, k2, k3, k4, k5, k6⟩ := cells7 hb; clear hg hb HB) | (go_at_call 28; refine (is_c _ _).mono ?_; rintro e w' ⟨rfl, rfl⟩) | (go_at_call 26; refine (refspan_c _ _ _ (by omega) (by omega)).mono ?_; rintro e w' ⟨rfl, rfl⟩) | (go_at_call 27; refine (vals_c 15 a c A cc v t n o _ _ _ (Kd.C_below HV.out XB.out) (m := 1) (by decide)).mono ?_; rintro e w2 ⟨rfl, HB⟩; have XBn := Aside0.mk (below_step XB.out HB); have BKn := Aside0.mk (blk_below BK.out HB); obtain ⟨k0, k1, k2, k3, k4, k5, k6⟩ := cells7 BKn.out; clear HB XB BK; have XB := XBn; have BK := BKn))
       go_ret
       exact ⟨rfl, XB.out⟩
      ·have z5 : spB a v.length = false := by simpa using hz5
       clear hz5
       have HR : Aside0 (chkB 15 a c v t n o = false) := ⟨by simp_all [chkB, wB] <;> (intros; omega)⟩
       rw [HR.out]
       go_enter Try.func10, Try.ntmps10
       go_wp2_with (first | ((with_reducible refine gate_dst (N := 1) rfl ?_); refine bx_ (N := 1) (cs := #[.int .i64 15, .int .i64 a, .int .i64 c, .slice A v.length cc, .int .i64 t, .int .i64 n, .int .i64 o]) (t := 31) ?_; intro g hg w1 hb HB; have XB := Aside0.mk HB; have BK := Aside0.mk hb; obtain ⟨k0, k1, k2, k3, k4, k5, k6⟩ := cells7 hb; clear hg hb HB) | (go_at_call 28; refine (is_c _ _).mono ?_; rintro e w' ⟨rfl, rfl⟩) | (go_at_call 26; refine (refspan_c _ _ _ (by omega) (by omega)).mono ?_; rintro e w' ⟨rfl, rfl⟩) | (go_at_call 27; refine (vals_c 15 a c A cc v t n o _ _ _ (Kd.C_below HV.out XB.out) (m := 1) (by decide)).mono ?_; rintro e w2 ⟨rfl, HB⟩; have XBn := Aside0.mk (below_step XB.out HB); have BKn := Aside0.mk (blk_below BK.out HB); obtain ⟨k0, k1, k2, k3, k4, k5, k6⟩ := cells7 BKn.out; clear HB XB BK; have XB := XBn; have BK := BKn))
       go_ret
       exact ⟨rfl, XB.out⟩
     ·have z4 : smB 1 1968 1 v = false := by simpa using hz4
      clear hz4
      have HR : Aside0 (chkB 15 a c v t n o = false) := ⟨by simp_all [chkB, wB] <;> (intros; omega)⟩
      rw [HR.out]
      go_enter Try.func10, Try.ntmps10
      go_wp2_with (first | ((with_reducible refine gate_dst (N := 1) rfl ?_); refine bx_ (N := 1) (cs := #[.int .i64 15, .int .i64 a, .int .i64 c, .slice A v.length cc, .int .i64 t, .int .i64 n, .int .i64 o]) (t := 31) ?_; intro g hg w1 hb HB; have XB := Aside0.mk HB; have BK := Aside0.mk hb; obtain ⟨k0, k1, k2, k3, k4, k5, k6⟩ := cells7 hb; clear hg hb HB) | (go_at_call 28; refine (is_c _ _).mono ?_; rintro e w' ⟨rfl, rfl⟩) | (go_at_call 26; refine (refspan_c _ _ _ (by omega) (by omega)).mono ?_; rintro e w' ⟨rfl, rfl⟩) | (go_at_call 27; refine (vals_c 15 a c A cc v t n o _ _ _ (Kd.C_below HV.out XB.out) (m := 1) (by decide)).mono ?_; rintro e w2 ⟨rfl, HB⟩; have XBn := Aside0.mk (below_step XB.out HB); have BKn := Aside0.mk (blk_below BK.out HB); obtain ⟨k0, k1, k2, k3, k4, k5, k6⟩ := cells7 BKn.out; clear HB XB BK; have XB := XBn; have BK := BKn))
      go_ret
      exact ⟨rfl, XB.out⟩
    ·have z3 : (c == (v.length : Int)) = false := by simpa using hz3
     clear hz3
     have HR : Aside0 (chkB 15 a c v t n o = false) := ⟨by simp_all [chkB, wB] <;> (intros; omega)⟩
     rw [HR.out]
     go_enter Try.func10, Try.ntmps10
     go_wp2_with (first | ((with_reducible refine gate_dst (N := 1) rfl ?_); refine bx_ (N := 1) (cs := #[.int .i64 15, .int .i64 a, .int .i64 c, .slice A v.length cc, .int .i64 t, .int .i64 n, .int .i64 o]) (t := 31) ?_; intro g hg w1 hb HB; have XB := Aside0.mk HB; have BK := Aside0.mk hb; obtain ⟨k0, k1, k2, k3, k4, k5, k6⟩ := cells7 hb; clear hg hb HB) | (go_at_call 28; refine (is_c _ _).mono ?_; rintro e w' ⟨rfl, rfl⟩) | (go_at_call 26; refine (refspan_c _ _ _ (by omega) (by omega)).mono ?_; rintro e w' ⟨rfl, rfl⟩) | (go_at_call 27; refine (vals_c 15 a c A cc v t n o _ _ _ (Kd.C_below HV.out XB.out) (m := 1) (by decide)).mono ?_; rintro e w2 ⟨rfl, HB⟩; have XBn := Aside0.mk (below_step XB.out HB); have BKn := Aside0.mk (blk_below BK.out HB); obtain ⟨k0, k1, k2, k3, k4, k5, k6⟩ := cells7 BKn.out; clear HB XB BK; have XB := XBn; have BK := BKn))
     go_ret
     exact ⟨rfl, XB.out⟩
   ·have z2 : (t == 0) = false := by simpa using hz2
    clear hz2
    have HR : Aside0 (chkB 15 a c v t n o = false) := ⟨by simp_all [chkB, wB] <;> (intros; omega)⟩
    rw [HR.out]
    go_enter Try.func10, Try.ntmps10
    go_wp2_with (first | ((with_reducible refine gate_dst (N := 1) rfl ?_); refine bx_ (N := 1) (cs := #[.int .i64 15, .int .i64 a, .int .i64 c, .slice A v.length cc, .int .i64 t, .int .i64 n, .int .i64 o]) (t := 31) ?_; intro g hg w1 hb HB; have XB := Aside0.mk HB; have BK := Aside0.mk hb; obtain ⟨k0, k1, k2, k3, k4, k5, k6⟩ := cells7 hb; clear hg hb HB) | (go_at_call 28; refine (is_c _ _).mono ?_; rintro e w' ⟨rfl, rfl⟩) | (go_at_call 26; refine (refspan_c _ _ _ (by omega) (by omega)).mono ?_; rintro e w' ⟨rfl, rfl⟩) | (go_at_call 27; refine (vals_c 15 a c A cc v t n o _ _ _ (Kd.C_below HV.out XB.out) (m := 1) (by decide)).mono ?_; rintro e w2 ⟨rfl, HB⟩; have XBn := Aside0.mk (below_step XB.out HB); have BKn := Aside0.mk (blk_below BK.out HB); obtain ⟨k0, k1, k2, k3, k4, k5, k6⟩ := cells7 BKn.out; clear HB XB BK; have XB := XBn; have BK := BKn))
    go_ret
    exact ⟨rfl, XB.out⟩
  ·have z1 : (o == 0) = false := by simpa using hz1
   clear hz1
   have HR : Aside0 (chkB 15 a c v t n o = false) := ⟨by simp_all [chkB, wB] <;> (intros; omega)⟩
   rw [HR.out]
   go_enter Try.func10, Try.ntmps10
   go_wp2_with (first | ((with_reducible refine gate_dst (N := 1) rfl ?_); refine bx_ (N := 1) (cs := #[.int .i64 15, .int .i64 a, .int .i64 c, .slice A v.length cc, .int .i64 t, .int .i64 n, .int .i64 o]) (t := 31) ?_; intro g hg w1 hb HB; have XB := Aside0.mk HB; have BK := Aside0.mk hb; obtain ⟨k0, k1, k2, k3, k4, k5, k6⟩ := cells7 hb; clear hg hb HB) | (go_at_call 28; refine (is_c _ _).mono ?_; rintro e w' ⟨rfl, rfl⟩) | (go_at_call 26; refine (refspan_c _ _ _ (by omega) (by omega)).mono ?_; rintro e w' ⟨rfl, rfl⟩) | (go_at_call 27; refine (vals_c 15 a c A cc v t n o _ _ _ (Kd.C_below HV.out XB.out) (m := 1) (by decide)).mono ?_; rintro e w2 ⟨rfl, HB⟩; have XBn := Aside0.mk (below_step XB.out HB); have BKn := Aside0.mk (blk_below BK.out HB); obtain ⟨k0, k1, k2, k3, k4, k5, k6⟩ := cells7 BKn.out; clear HB XB BK; have XB := XBn; have BK := BKn))
   go_ret
   exact ⟨rfl, XB.out⟩
 ·have z0 : (n == 0) = false := by simpa using hz0
  clear hz0
  have HR : Aside0 (chkB 15 a c v t n o = false) := ⟨by simp_all [chkB, wB] <;> (intros; omega)⟩
  rw [HR.out]
  go_enter Try.func10, Try.ntmps10
  go_wp2_with (first | ((with_reducible refine gate_dst (N := 1) rfl ?_); refine bx_ (N := 1) (cs := #[.int .i64 15, .int .i64 a, .int .i64 c, .slice A v.length cc, .int .i64 t, .int .i64 n, .int .i64 o]) (t := 31) ?_; intro g hg w1 hb HB; have XB := Aside0.mk HB; have BK := Aside0.mk hb; obtain ⟨k0, k1, k2, k3, k4, k5, k6⟩ := cells7 hb; clear hg hb HB) | (go_at_call 28; refine (is_c _ _).mono ?_; rintro e w' ⟨rfl, rfl⟩) | (go_at_call 26; refine (refspan_c _ _ _ (by omega) (by omega)).mono ?_; rintro e w' ⟨rfl, rfl⟩) | (go_at_call 27; refine (vals_c 15 a c A cc v t n o _ _ _ (Kd.C_below HV.out XB.out) (m := 1) (by decide)).mono ?_; rintro e w2 ⟨rfl, HB⟩; have XBn := Aside0.mk (below_step XB.out HB); have BKn := Aside0.mk (blk_below BK.out HB); obtain ⟨k0, k1, k2, k3, k4, k5, k6⟩ := cells7 BKn.out; clear HB XB BK; have XB := XBn; have BK := BKn))
  go_ret
  exact ⟨rfl, XB.out⟩
set_option maxHeartbeats 4000000 in
set_option maxRecDepth 100000 in
theorem may_16 (a c : Int) (A : Option Addr) (cc : Nat) (v : List Int) (t n o : Int) (w : World) (hV : Kd.C (Kd.int .i64) w A v.length v) : Calls Try.prog 10 #[.agg #[.int .i64 16, .int .i64 a, .int .i64 c, .slice A v.length cc, .int .i64 t, .int .i64 n, .int .i64 o]] w fun e w' => e = .returned (.bool (chkB 16 a c v t n o)) ∧ Below w.heap.size w w' := by
 have HV := Aside0.mk hV; clear hV
 by_cases hz0 : (n == 0) = true
 ·have z0 : (n == 0) = true := hz0; clear hz0
  by_cases hz1 : (o == 0) = true
  ·have z1 : (o == 0) = true := hz1; clear hz1
   by_cases hz2 : (t == 0) = true
   ·have z2 : (t == 0) = true := hz2; clear hz2
    by_cases hz3 : (c == (v.length : Int)) = true
    ·have z3 : (c == (v.length : Int)) = true := hz3; clear hz3
     by_cases hz4 : smB 1 123 65535 v = true
     ·have z4 : smB 1 123 65535 v = true := hz4; clear hz4; have pz4 := smB_len z4
      by_cases hz5 : spB a v.length = true
      ·have z5 : spB a v.length = true := hz5; clear hz5
       have HR : Aside0 (chkB 16 a c v t n o = true) := ⟨by simp_all [chkB, wB] <;> (intros; omega)⟩
       rw [HR.out]
       go_enter Try.func10, Try.ntmps10
       go_wp2_with (first | ((with_reducible refine gate_dst (N := 1) rfl ?_); refine bx_ (N := 1) (cs := #[.int .i64 16, .int .i64 a, .int .i64 c, .slice A v.length cc, .int .i64 t, .int .i64 n, .int .i64 o]) (t := 31) ?_; intro g hg w1 hb HB; have XB := Aside0.mk HB; have BK := Aside0.mk hb; obtain ⟨k0, k1, k2, k3, k4, k5, k6⟩ := cells7 hb; clear hg hb HB) | (go_at_call 28; refine (is_c _ _).mono ?_; rintro e w' ⟨rfl, rfl⟩) | (go_at_call 26; refine (refspan_c _ _ _ (by omega) (by omega)).mono ?_; rintro e w' ⟨rfl, rfl⟩) | (go_at_call 27; refine (vals_c 16 a c A cc v t n o _ _ _ (Kd.C_below HV.out XB.out) (m := 65535) (by decide)).mono ?_; rintro e w2 ⟨rfl, HB⟩; have XBn := Aside0.mk (below_step XB.out HB); have BKn := Aside0.mk (blk_below BK.out HB); obtain ⟨k0, k1, k2, k3, k4, k5, k6⟩ := cells7 BKn.out; clear HB XB BK; have XB := XBn; have BK := BKn))
       go_ret
       exact ⟨rfl, XB.out⟩
      ·have z5 : spB a v.length = false := by simpa using hz5
       clear hz5
       have HR : Aside0 (chkB 16 a c v t n o = false) := ⟨by simp_all [chkB, wB] <;> (intros; omega)⟩
       rw [HR.out]
       go_enter Try.func10, Try.ntmps10
       go_wp2_with (first | ((with_reducible refine gate_dst (N := 1) rfl ?_); refine bx_ (N := 1) (cs := #[.int .i64 16, .int .i64 a, .int .i64 c, .slice A v.length cc, .int .i64 t, .int .i64 n, .int .i64 o]) (t := 31) ?_; intro g hg w1 hb HB; have XB := Aside0.mk HB; have BK := Aside0.mk hb; obtain ⟨k0, k1, k2, k3, k4, k5, k6⟩ := cells7 hb; clear hg hb HB) | (go_at_call 28; refine (is_c _ _).mono ?_; rintro e w' ⟨rfl, rfl⟩) | (go_at_call 26; refine (refspan_c _ _ _ (by omega) (by omega)).mono ?_; rintro e w' ⟨rfl, rfl⟩) | (go_at_call 27; refine (vals_c 16 a c A cc v t n o _ _ _ (Kd.C_below HV.out XB.out) (m := 65535) (by decide)).mono ?_; rintro e w2 ⟨rfl, HB⟩; have XBn := Aside0.mk (below_step XB.out HB); have BKn := Aside0.mk (blk_below BK.out HB); obtain ⟨k0, k1, k2, k3, k4, k5, k6⟩ := cells7 BKn.out; clear HB XB BK; have XB := XBn; have BK := BKn))
       go_ret
       exact ⟨rfl, XB.out⟩
     ·have z4 : smB 1 123 65535 v = false := by simpa using hz4
      clear hz4
      have HR : Aside0 (chkB 16 a c v t n o = false) := ⟨by simp_all [chkB, wB] <;> (intros; omega)⟩
      rw [HR.out]
      go_enter Try.func10, Try.ntmps10
      go_wp2_with (first | ((with_reducible refine gate_dst (N := 1) rfl ?_); refine bx_ (N := 1) (cs := #[.int .i64 16, .int .i64 a, .int .i64 c, .slice A v.length cc, .int .i64 t, .int .i64 n, .int .i64 o]) (t := 31) ?_; intro g hg w1 hb HB; have XB := Aside0.mk HB; have BK := Aside0.mk hb; obtain ⟨k0, k1, k2, k3, k4, k5, k6⟩ := cells7 hb; clear hg hb HB) | (go_at_call 28; refine (is_c _ _).mono ?_; rintro e w' ⟨rfl, rfl⟩) | (go_at_call 26; refine (refspan_c _ _ _ (by omega) (by omega)).mono ?_; rintro e w' ⟨rfl, rfl⟩) | (go_at_call 27; refine (vals_c 16 a c A cc v t n o _ _ _ (Kd.C_below HV.out XB.out) (m := 65535) (by decide)).mono ?_; rintro e w2 ⟨rfl, HB⟩; have XBn := Aside0.mk (below_step XB.out HB); have BKn := Aside0.mk (blk_below BK.out HB); obtain ⟨k0, k1, k2, k3, k4, k5, k6⟩ := cells7 BKn.out; clear HB XB BK; have XB := XBn; have BK := BKn))
      go_ret
      exact ⟨rfl, XB.out⟩
    ·have z3 : (c == (v.length : Int)) = false := by simpa using hz3
     clear hz3
     have HR : Aside0 (chkB 16 a c v t n o = false) := ⟨by simp_all [chkB, wB] <;> (intros; omega)⟩
     rw [HR.out]
     go_enter Try.func10, Try.ntmps10
     go_wp2_with (first | ((with_reducible refine gate_dst (N := 1) rfl ?_); refine bx_ (N := 1) (cs := #[.int .i64 16, .int .i64 a, .int .i64 c, .slice A v.length cc, .int .i64 t, .int .i64 n, .int .i64 o]) (t := 31) ?_; intro g hg w1 hb HB; have XB := Aside0.mk HB; have BK := Aside0.mk hb; obtain ⟨k0, k1, k2, k3, k4, k5, k6⟩ := cells7 hb; clear hg hb HB) | (go_at_call 28; refine (is_c _ _).mono ?_; rintro e w' ⟨rfl, rfl⟩) | (go_at_call 26; refine (refspan_c _ _ _ (by omega) (by omega)).mono ?_; rintro e w' ⟨rfl, rfl⟩) | (go_at_call 27; refine (vals_c 16 a c A cc v t n o _ _ _ (Kd.C_below HV.out XB.out) (m := 65535) (by decide)).mono ?_; rintro e w2 ⟨rfl, HB⟩; have XBn := Aside0.mk (below_step XB.out HB); have BKn := Aside0.mk (blk_below BK.out HB); obtain ⟨k0, k1, k2, k3, k4, k5, k6⟩ := cells7 BKn.out; clear HB XB BK; have XB := XBn; have BK := BKn))
     go_ret
     exact ⟨rfl, XB.out⟩
   ·have z2 : (t == 0) = false := by simpa using hz2
    clear hz2
    have HR : Aside0 (chkB 16 a c v t n o = false) := ⟨by simp_all [chkB, wB] <;> (intros; omega)⟩
    rw [HR.out]
    go_enter Try.func10, Try.ntmps10
    go_wp2_with (first | ((with_reducible refine gate_dst (N := 1) rfl ?_); refine bx_ (N := 1) (cs := #[.int .i64 16, .int .i64 a, .int .i64 c, .slice A v.length cc, .int .i64 t, .int .i64 n, .int .i64 o]) (t := 31) ?_; intro g hg w1 hb HB; have XB := Aside0.mk HB; have BK := Aside0.mk hb; obtain ⟨k0, k1, k2, k3, k4, k5, k6⟩ := cells7 hb; clear hg hb HB) | (go_at_call 28; refine (is_c _ _).mono ?_; rintro e w' ⟨rfl, rfl⟩) | (go_at_call 26; refine (refspan_c _ _ _ (by omega) (by omega)).mono ?_; rintro e w' ⟨rfl, rfl⟩) | (go_at_call 27; refine (vals_c 16 a c A cc v t n o _ _ _ (Kd.C_below HV.out XB.out) (m := 65535) (by decide)).mono ?_; rintro e w2 ⟨rfl, HB⟩; have XBn := Aside0.mk (below_step XB.out HB); have BKn := Aside0.mk (blk_below BK.out HB); obtain ⟨k0, k1, k2, k3, k4, k5, k6⟩ := cells7 BKn.out; clear HB XB BK; have XB := XBn; have BK := BKn))
    go_ret
    exact ⟨rfl, XB.out⟩
  ·have z1 : (o == 0) = false := by simpa using hz1
   clear hz1
   have HR : Aside0 (chkB 16 a c v t n o = false) := ⟨by simp_all [chkB, wB] <;> (intros; omega)⟩
   rw [HR.out]
   go_enter Try.func10, Try.ntmps10
   go_wp2_with (first | ((with_reducible refine gate_dst (N := 1) rfl ?_); refine bx_ (N := 1) (cs := #[.int .i64 16, .int .i64 a, .int .i64 c, .slice A v.length cc, .int .i64 t, .int .i64 n, .int .i64 o]) (t := 31) ?_; intro g hg w1 hb HB; have XB := Aside0.mk HB; have BK := Aside0.mk hb; obtain ⟨k0, k1, k2, k3, k4, k5, k6⟩ := cells7 hb; clear hg hb HB) | (go_at_call 28; refine (is_c _ _).mono ?_; rintro e w' ⟨rfl, rfl⟩) | (go_at_call 26; refine (refspan_c _ _ _ (by omega) (by omega)).mono ?_; rintro e w' ⟨rfl, rfl⟩) | (go_at_call 27; refine (vals_c 16 a c A cc v t n o _ _ _ (Kd.C_below HV.out XB.out) (m := 65535) (by decide)).mono ?_; rintro e w2 ⟨rfl, HB⟩; have XBn := Aside0.mk (below_step XB.out HB); have BKn := Aside0.mk (blk_below BK.out HB); obtain ⟨k0, k1, k2, k3, k4, k5, k6⟩ := cells7 BKn.out; clear HB XB BK; have XB := XBn; have BK := BKn))
   go_ret
   exact ⟨rfl, XB.out⟩
 ·have z0 : (n == 0) = false := by simpa using hz0
  clear hz0
  have HR : Aside0 (chkB 16 a c v t n o = false) := ⟨by simp_all [chkB, wB] <;> (intros; omega)⟩
  rw [HR.out]
  go_enter Try.func10, Try.ntmps10
  go_wp2_with (first | ((with_reducible refine gate_dst (N := 1) rfl ?_); refine bx_ (N := 1) (cs := #[.int .i64 16, .int .i64 a, .int .i64 c, .slice A v.length cc, .int .i64 t, .int .i64 n, .int .i64 o]) (t := 31) ?_; intro g hg w1 hb HB; have XB := Aside0.mk HB; have BK := Aside0.mk hb; obtain ⟨k0, k1, k2, k3, k4, k5, k6⟩ := cells7 hb; clear hg hb HB) | (go_at_call 28; refine (is_c _ _).mono ?_; rintro e w' ⟨rfl, rfl⟩) | (go_at_call 26; refine (refspan_c _ _ _ (by omega) (by omega)).mono ?_; rintro e w' ⟨rfl, rfl⟩) | (go_at_call 27; refine (vals_c 16 a c A cc v t n o _ _ _ (Kd.C_below HV.out XB.out) (m := 65535) (by decide)).mono ?_; rintro e w2 ⟨rfl, HB⟩; have XBn := Aside0.mk (below_step XB.out HB); have BKn := Aside0.mk (blk_below BK.out HB); obtain ⟨k0, k1, k2, k3, k4, k5, k6⟩ := cells7 BKn.out; clear HB XB BK; have XB := XBn; have BK := BKn))
  go_ret
  exact ⟨rfl, XB.out⟩
end Go.Proofs.Ytlalpooiegganaa.Chk
end

section
namespace Go.Proofs.Ytlalpooiegganaa.Chk
open Go.RowKit Go.Proofs.YtlalpooiegganaaW.PrintWords Go.Proofs.YtlalpooiegganaaW.PrintLast Go.Proofs.YtlalpooiegganaaW.PrintMore Go.Proofs.Ytlalpooiegganaa.Core Go.Proofs.Ytlalpooiegganaa.Wk
set_option linter.unusedVariables false
set_option linter.unusedSimpArgs false
set_option maxHeartbeats 4000000 in
set_option maxRecDepth 100000 in
theorem may_22 (a c : Int) (A : Option Addr) (cc : Nat) (v : List Int) (t n o : Int) (w : World) (hV : Kd.C (Kd.int .i64) w A v.length v) : Calls Try.prog 10 #[.agg #[.int .i64 22, .int .i64 a, .int .i64 c, .slice A v.length cc, .int .i64 t, .int .i64 n, .int .i64 o]] w fun e w' => e = .returned (.bool (chkB 22 a c v t n o)) ∧ Below w.heap.size w w' := by
 have HV := Aside0.mk hV; clear hV
 by_cases hz0 : (n == 0) = true
 ·have z0 : (n == 0) = true := hz0; clear hz0
  by_cases hz1 : (o == 0) = true
  ·have z1 : (o == 0) = true := hz1; clear hz1
   by_cases hz2 : ((v.length : Int) == 0) = true
   ·have z2 : ((v.length : Int) == 0) = true := hz2; clear hz2
    by_cases hz3 : (t == 0) = true
    ·have z3 : (t == 0) = true := hz3; clear hz3
     by_cases hz4 : (c == 0) = true
     ·have z4 : (c == 0) = true := hz4; clear hz4
      by_cases hz5 : spB a 1 = true
      ·have z5 : spB a 1 = true := hz5; clear hz5
       by_cases hz6 : wB 0 65535 n = true
       ·have z6 : wB 0 65535 n = true := hz6; clear hz6
        by_cases hz7 : wB 0 65535 o = true
        ·have z7 : wB 0 65535 o = true := hz7; clear hz7
         have HR : Aside0 (chkB 22 a c v t n o = true) := ⟨by simp_all [chkB]⟩
         rw [HR.out]
         go_enter Try.func10, Try.ntmps10
         go_wp2_with (first | ((with_reducible refine gate_dst (N := 1) rfl ?_); refine bx_ (N := 1) (cs := #[.int .i64 22, .int .i64 a, .int .i64 c, .slice A v.length cc, .int .i64 t, .int .i64 n, .int .i64 o]) (t := 31) ?_; intro g hg w1 hb HB; have XB := Aside0.mk HB; have BK := Aside0.mk hb; obtain ⟨k0, k1, k2, k3, k4, k5, k6⟩ := cells7 hb; clear hg hb HB) | (go_at_call 28; refine (is_c _ _).mono ?_; rintro e w' ⟨rfl, rfl⟩) | (go_at_call 26; refine (refspan_c _ _ _ (by omega) (by omega)).mono ?_; rintro e w' ⟨rfl, rfl⟩))
         go_ret
         exact ⟨rfl, XB.out⟩
        ·have z7 : wB 0 65535 o = false := by simpa using hz7
         clear hz7
         have HR : Aside0 (chkB 22 a c v t n o = false) := ⟨by simp_all [chkB]⟩
         rw [HR.out]
         go_enter Try.func10, Try.ntmps10
         go_wp2_with (first | ((with_reducible refine gate_dst (N := 1) rfl ?_); refine bx_ (N := 1) (cs := #[.int .i64 22, .int .i64 a, .int .i64 c, .slice A v.length cc, .int .i64 t, .int .i64 n, .int .i64 o]) (t := 31) ?_; intro g hg w1 hb HB; have XB := Aside0.mk HB; have BK := Aside0.mk hb; obtain ⟨k0, k1, k2, k3, k4, k5, k6⟩ := cells7 hb; clear hg hb HB) | (go_at_call 28; refine (is_c _ _).mono ?_; rintro e w' ⟨rfl, rfl⟩) | (go_at_call 26; refine (refspan_c _ _ _ (by omega) (by omega)).mono ?_; rintro e w' ⟨rfl, rfl⟩))
         go_ret
         exact ⟨rfl, XB.out⟩
       ·have z6 : wB 0 65535 n = false := by simpa using hz6
        clear hz6
        have HR : Aside0 (chkB 22 a c v t n o = false) := ⟨by simp_all [chkB]⟩
        rw [HR.out]
        go_enter Try.func10, Try.ntmps10
        go_wp2_with (first | ((with_reducible refine gate_dst (N := 1) rfl ?_); refine bx_ (N := 1) (cs := #[.int .i64 22, .int .i64 a, .int .i64 c, .slice A v.length cc, .int .i64 t, .int .i64 n, .int .i64 o]) (t := 31) ?_; intro g hg w1 hb HB; have XB := Aside0.mk HB; have BK := Aside0.mk hb; obtain ⟨k0, k1, k2, k3, k4, k5, k6⟩ := cells7 hb; clear hg hb HB) | (go_at_call 28; refine (is_c _ _).mono ?_; rintro e w' ⟨rfl, rfl⟩) | (go_at_call 26; refine (refspan_c _ _ _ (by omega) (by omega)).mono ?_; rintro e w' ⟨rfl, rfl⟩))
        go_ret
        exact ⟨rfl, XB.out⟩
      ·have z5 : spB a 1 = false := by simpa using hz5
       clear hz5
       have HR : Aside0 (chkB 22 a c v t n o = false) := ⟨by simp_all [chkB]⟩
       rw [HR.out]
       go_enter Try.func10, Try.ntmps10
       go_wp2_with (first | ((with_reducible refine gate_dst (N := 1) rfl ?_); refine bx_ (N := 1) (cs := #[.int .i64 22, .int .i64 a, .int .i64 c, .slice A v.length cc, .int .i64 t, .int .i64 n, .int .i64 o]) (t := 31) ?_; intro g hg w1 hb HB; have XB := Aside0.mk HB; have BK := Aside0.mk hb; obtain ⟨k0, k1, k2, k3, k4, k5, k6⟩ := cells7 hb; clear hg hb HB) | (go_at_call 28; refine (is_c _ _).mono ?_; rintro e w' ⟨rfl, rfl⟩) | (go_at_call 26; refine (refspan_c _ _ _ (by omega) (by omega)).mono ?_; rintro e w' ⟨rfl, rfl⟩))
       go_ret
       exact ⟨rfl, XB.out⟩
     ·have z4 : (c == 0) = false := by simpa using hz4
      clear hz4
      have HR : Aside0 (chkB 22 a c v t n o = false) := ⟨by simp_all [chkB]⟩
      rw [HR.out]
      go_enter Try.func10, Try.ntmps10
      go_wp2_with (first | ((with_reducible refine gate_dst (N := 1) rfl ?_); refine bx_ (N := 1) (cs := #[.int .i64 22, .int .i64 a, .int .i64 c, .slice A v.length cc, .int .i64 t, .int .i64 n, .int .i64 o]) (t := 31) ?_; intro g hg w1 hb HB; have XB := Aside0.mk HB; have BK := Aside0.mk hb; obtain ⟨k0, k1, k2, k3, k4, k5, k6⟩ := cells7 hb; clear hg hb HB) | (go_at_call 28; refine (is_c _ _).mono ?_; rintro e w' ⟨rfl, rfl⟩) | (go_at_call 26; refine (refspan_c _ _ _ (by omega) (by omega)).mono ?_; rintro e w' ⟨rfl, rfl⟩))
      go_ret
      exact ⟨rfl, XB.out⟩
    ·have z3 : (t == 0) = false := by simpa using hz3
     clear hz3
     have HR : Aside0 (chkB 22 a c v t n o = false) := ⟨by simp_all [chkB]⟩
     rw [HR.out]
     go_enter Try.func10, Try.ntmps10
     go_wp2_with (first | ((with_reducible refine gate_dst (N := 1) rfl ?_); refine bx_ (N := 1) (cs := #[.int .i64 22, .int .i64 a, .int .i64 c, .slice A v.length cc, .int .i64 t, .int .i64 n, .int .i64 o]) (t := 31) ?_; intro g hg w1 hb HB; have XB := Aside0.mk HB; have BK := Aside0.mk hb; obtain ⟨k0, k1, k2, k3, k4, k5, k6⟩ := cells7 hb; clear hg hb HB) | (go_at_call 28; refine (is_c _ _).mono ?_; rintro e w' ⟨rfl, rfl⟩) | (go_at_call 26; refine (refspan_c _ _ _ (by omega) (by omega)).mono ?_; rintro e w' ⟨rfl, rfl⟩))
     go_ret
     exact ⟨rfl, XB.out⟩
   ·have z2 : ((v.length : Int) == 0) = false := by simpa using hz2
    clear hz2
    have HR : Aside0 (chkB 22 a c v t n o = false) := ⟨by simp_all [chkB]⟩
    rw [HR.out]
    go_enter Try.func10, Try.ntmps10
    go_wp2_with (first | ((with_reducible refine gate_dst (N := 1) rfl ?_); refine bx_ (N := 1) (cs := #[.int .i64 22, .int .i64 a, .int .i64 c, .slice A v.length cc, .int .i64 t, .int .i64 n, .int .i64 o]) (t := 31) ?_; intro g hg w1 hb HB; have XB := Aside0.mk HB; have BK := Aside0.mk hb; obtain ⟨k0, k1, k2, k3, k4, k5, k6⟩ := cells7 hb; clear hg hb HB) | (go_at_call 28; refine (is_c _ _).mono ?_; rintro e w' ⟨rfl, rfl⟩) | (go_at_call 26; refine (refspan_c _ _ _ (by omega) (by omega)).mono ?_; rintro e w' ⟨rfl, rfl⟩))
    go_ret
    exact ⟨rfl, XB.out⟩
  ·have z1 : (o == 0) = false := by simpa using hz1
   clear hz1
   by_cases hz2 : ((v.length : Int) == 0) = true
   ·have z2 : ((v.length : Int) == 0) = true := hz2; clear hz2
    by_cases hz3 : (t == 0) = true
    ·have z3 : (t == 0) = true := hz3; clear hz3
     by_cases hz4 : (c == 0) = true
     ·have z4 : (c == 0) = true := hz4; clear hz4
      by_cases hz5 : spB a 1 = true
      ·have z5 : spB a 1 = true := hz5; clear hz5
       by_cases hz6 : wB 0 65535 n = true
       ·have z6 : wB 0 65535 n = true := hz6; clear hz6
        by_cases hz7 : wB 0 65535 o = true
        ·have z7 : wB 0 65535 o = true := hz7; clear hz7
         have HR : Aside0 (chkB 22 a c v t n o = true) := ⟨by simp_all [chkB]⟩
         rw [HR.out]
         go_enter Try.func10, Try.ntmps10
         go_wp2_with (first | ((with_reducible refine gate_dst (N := 1) rfl ?_); refine bx_ (N := 1) (cs := #[.int .i64 22, .int .i64 a, .int .i64 c, .slice A v.length cc, .int .i64 t, .int .i64 n, .int .i64 o]) (t := 31) ?_; intro g hg w1 hb HB; have XB := Aside0.mk HB; have BK := Aside0.mk hb; obtain ⟨k0, k1, k2, k3, k4, k5, k6⟩ := cells7 hb; clear hg hb HB) | (go_at_call 28; refine (is_c _ _).mono ?_; rintro e w' ⟨rfl, rfl⟩) | (go_at_call 26; refine (refspan_c _ _ _ (by omega) (by omega)).mono ?_; rintro e w' ⟨rfl, rfl⟩))
         go_ret
         exact ⟨rfl, XB.out⟩
        ·have z7 : wB 0 65535 o = false := by simpa using hz7
         clear hz7
         have HR : Aside0 (chkB 22 a c v t n o = false) := ⟨by simp_all [chkB]⟩
         rw [HR.out]
         go_enter Try.func10, Try.ntmps10
         go_wp2_with (first | ((with_reducible refine gate_dst (N := 1) rfl ?_); refine bx_ (N := 1) (cs := #[.int .i64 22, .int .i64 a, .int .i64 c, .slice A v.length cc, .int .i64 t, .int .i64 n, .int .i64 o]) (t := 31) ?_; intro g hg w1 hb HB; have XB := Aside0.mk HB; have BK := Aside0.mk hb; obtain ⟨k0, k1, k2, k3, k4, k5, k6⟩ := cells7 hb; clear hg hb HB) | (go_at_call 28; refine (is_c _ _).mono ?_; rintro e w' ⟨rfl, rfl⟩) | (go_at_call 26; refine (refspan_c _ _ _ (by omega) (by omega)).mono ?_; rintro e w' ⟨rfl, rfl⟩))
         go_ret
         exact ⟨rfl, XB.out⟩
       ·have z6 : wB 0 65535 n = false := by simpa using hz6
        clear hz6
        have HR : Aside0 (chkB 22 a c v t n o = false) := ⟨by simp_all [chkB]⟩
        rw [HR.out]
        go_enter Try.func10, Try.ntmps10
        go_wp2_with (first | ((with_reducible refine gate_dst (N := 1) rfl ?_); refine bx_ (N := 1) (cs := #[.int .i64 22, .int .i64 a, .int .i64 c, .slice A v.length cc, .int .i64 t, .int .i64 n, .int .i64 o]) (t := 31) ?_; intro g hg w1 hb HB; have XB := Aside0.mk HB; have BK := Aside0.mk hb; obtain ⟨k0, k1, k2, k3, k4, k5, k6⟩ := cells7 hb; clear hg hb HB) | (go_at_call 28; refine (is_c _ _).mono ?_; rintro e w' ⟨rfl, rfl⟩) | (go_at_call 26; refine (refspan_c _ _ _ (by omega) (by omega)).mono ?_; rintro e w' ⟨rfl, rfl⟩))
        go_ret
        exact ⟨rfl, XB.out⟩
      ·have z5 : spB a 1 = false := by simpa using hz5
       clear hz5
       have HR : Aside0 (chkB 22 a c v t n o = false) := ⟨by simp_all [chkB]⟩
       rw [HR.out]
       go_enter Try.func10, Try.ntmps10
       go_wp2_with (first | ((with_reducible refine gate_dst (N := 1) rfl ?_); refine bx_ (N := 1) (cs := #[.int .i64 22, .int .i64 a, .int .i64 c, .slice A v.length cc, .int .i64 t, .int .i64 n, .int .i64 o]) (t := 31) ?_; intro g hg w1 hb HB; have XB := Aside0.mk HB; have BK := Aside0.mk hb; obtain ⟨k0, k1, k2, k3, k4, k5, k6⟩ := cells7 hb; clear hg hb HB) | (go_at_call 28; refine (is_c _ _).mono ?_; rintro e w' ⟨rfl, rfl⟩) | (go_at_call 26; refine (refspan_c _ _ _ (by omega) (by omega)).mono ?_; rintro e w' ⟨rfl, rfl⟩))
       go_ret
       exact ⟨rfl, XB.out⟩
     ·have z4 : (c == 0) = false := by simpa using hz4
      clear hz4
      have HR : Aside0 (chkB 22 a c v t n o = false) := ⟨by simp_all [chkB]⟩
      rw [HR.out]
      go_enter Try.func10, Try.ntmps10
      go_wp2_with (first | ((with_reducible refine gate_dst (N := 1) rfl ?_); refine bx_ (N := 1) (cs := #[.int .i64 22, .int .i64 a, .int .i64 c, .slice A v.length cc, .int .i64 t, .int .i64 n, .int .i64 o]) (t := 31) ?_; intro g hg w1 hb HB; have XB := Aside0.mk HB; have BK := Aside0.mk hb; obtain ⟨k0, k1, k2, k3, k4, k5, k6⟩ := cells7 hb; clear hg hb HB) | (go_at_call 28; refine (is_c _ _).mono ?_; rintro e w' ⟨rfl, rfl⟩) | (go_at_call 26; refine (refspan_c _ _ _ (by omega) (by omega)).mono ?_; rintro e w' ⟨rfl, rfl⟩))
      go_ret
      exact ⟨rfl, XB.out⟩
    ·have z3 : (t == 0) = false := by simpa using hz3
     clear hz3
     have HR : Aside0 (chkB 22 a c v t n o = false) := ⟨by simp_all [chkB]⟩
     rw [HR.out]
     go_enter Try.func10, Try.ntmps10
     go_wp2_with (first | ((with_reducible refine gate_dst (N := 1) rfl ?_); refine bx_ (N := 1) (cs := #[.int .i64 22, .int .i64 a, .int .i64 c, .slice A v.length cc, .int .i64 t, .int .i64 n, .int .i64 o]) (t := 31) ?_; intro g hg w1 hb HB; have XB := Aside0.mk HB; have BK := Aside0.mk hb; obtain ⟨k0, k1, k2, k3, k4, k5, k6⟩ := cells7 hb; clear hg hb HB) | (go_at_call 28; refine (is_c _ _).mono ?_; rintro e w' ⟨rfl, rfl⟩) | (go_at_call 26; refine (refspan_c _ _ _ (by omega) (by omega)).mono ?_; rintro e w' ⟨rfl, rfl⟩))
     go_ret
     exact ⟨rfl, XB.out⟩
   ·have z2 : ((v.length : Int) == 0) = false := by simpa using hz2
    clear hz2
    have HR : Aside0 (chkB 22 a c v t n o = false) := ⟨by simp_all [chkB]⟩
    rw [HR.out]
    go_enter Try.func10, Try.ntmps10
    go_wp2_with (first | ((with_reducible refine gate_dst (N := 1) rfl ?_); refine bx_ (N := 1) (cs := #[.int .i64 22, .int .i64 a, .int .i64 c, .slice A v.length cc, .int .i64 t, .int .i64 n, .int .i64 o]) (t := 31) ?_; intro g hg w1 hb HB; have XB := Aside0.mk HB; have BK := Aside0.mk hb; obtain ⟨k0, k1, k2, k3, k4, k5, k6⟩ := cells7 hb; clear hg hb HB) | (go_at_call 28; refine (is_c _ _).mono ?_; rintro e w' ⟨rfl, rfl⟩) | (go_at_call 26; refine (refspan_c _ _ _ (by omega) (by omega)).mono ?_; rintro e w' ⟨rfl, rfl⟩))
    go_ret
    exact ⟨rfl, XB.out⟩
 ·have z0 : (n == 0) = false := by simpa using hz0
  clear hz0
  by_cases hz1 : ((v.length : Int) == 0) = true
  ·have z1 : ((v.length : Int) == 0) = true := hz1; clear hz1
   by_cases hz2 : (t == 0) = true
   ·have z2 : (t == 0) = true := hz2; clear hz2
    by_cases hz3 : (c == 0) = true
    ·have z3 : (c == 0) = true := hz3; clear hz3
     by_cases hz4 : spB a 1 = true
     ·have z4 : spB a 1 = true := hz4; clear hz4
      by_cases hz5 : wB 0 65535 n = true
      ·have z5 : wB 0 65535 n = true := hz5; clear hz5
       by_cases hz6 : wB 0 65535 o = true
       ·have z6 : wB 0 65535 o = true := hz6; clear hz6
        have HR : Aside0 (chkB 22 a c v t n o = true) := ⟨by simp_all [chkB]⟩
        rw [HR.out]
        go_enter Try.func10, Try.ntmps10
        go_wp2_with (first | ((with_reducible refine gate_dst (N := 1) rfl ?_); refine bx_ (N := 1) (cs := #[.int .i64 22, .int .i64 a, .int .i64 c, .slice A v.length cc, .int .i64 t, .int .i64 n, .int .i64 o]) (t := 31) ?_; intro g hg w1 hb HB; have XB := Aside0.mk HB; have BK := Aside0.mk hb; obtain ⟨k0, k1, k2, k3, k4, k5, k6⟩ := cells7 hb; clear hg hb HB) | (go_at_call 28; refine (is_c _ _).mono ?_; rintro e w' ⟨rfl, rfl⟩) | (go_at_call 26; refine (refspan_c _ _ _ (by omega) (by omega)).mono ?_; rintro e w' ⟨rfl, rfl⟩))
        go_ret
        exact ⟨rfl, XB.out⟩
       ·have z6 : wB 0 65535 o = false := by simpa using hz6
        clear hz6
        have HR : Aside0 (chkB 22 a c v t n o = false) := ⟨by simp_all [chkB]⟩
        rw [HR.out]
        go_enter Try.func10, Try.ntmps10
        go_wp2_with (first | ((with_reducible refine gate_dst (N := 1) rfl ?_); refine bx_ (N := 1) (cs := #[.int .i64 22, .int .i64 a, .int .i64 c, .slice A v.length cc, .int .i64 t, .int .i64 n, .int .i64 o]) (t := 31) ?_; intro g hg w1 hb HB; have XB := Aside0.mk HB; have BK := Aside0.mk hb; obtain ⟨k0, k1, k2, k3, k4, k5, k6⟩ := cells7 hb; clear hg hb HB) | (go_at_call 28; refine (is_c _ _).mono ?_; rintro e w' ⟨rfl, rfl⟩) | (go_at_call 26; refine (refspan_c _ _ _ (by omega) (by omega)).mono ?_; rintro e w' ⟨rfl, rfl⟩))
        go_ret
        exact ⟨rfl, XB.out⟩
      ·have z5 : wB 0 65535 n = false := by simpa using hz5
       clear hz5
       have HR : Aside0 (chkB 22 a c v t n o = false) := ⟨by simp_all [chkB]⟩
       rw [HR.out]
       go_enter Try.func10, Try.ntmps10
       go_wp2_with (first | ((with_reducible refine gate_dst (N := 1) rfl ?_); refine bx_ (N := 1) (cs := #[.int .i64 22, .int .i64 a, .int .i64 c, .slice A v.length cc, .int .i64 t, .int .i64 n, .int .i64 o]) (t := 31) ?_; intro g hg w1 hb HB; have XB := Aside0.mk HB; have BK := Aside0.mk hb; obtain ⟨k0, k1, k2, k3, k4, k5, k6⟩ := cells7 hb; clear hg hb HB) | (go_at_call 28; refine (is_c _ _).mono ?_; rintro e w' ⟨rfl, rfl⟩) | (go_at_call 26; refine (refspan_c _ _ _ (by omega) (by omega)).mono ?_; rintro e w' ⟨rfl, rfl⟩))
       go_ret
       exact ⟨rfl, XB.out⟩
     ·have z4 : spB a 1 = false := by simpa using hz4
      clear hz4
      have HR : Aside0 (chkB 22 a c v t n o = false) := ⟨by simp_all [chkB]⟩
      rw [HR.out]
      go_enter Try.func10, Try.ntmps10
      go_wp2_with (first | ((with_reducible refine gate_dst (N := 1) rfl ?_); refine bx_ (N := 1) (cs := #[.int .i64 22, .int .i64 a, .int .i64 c, .slice A v.length cc, .int .i64 t, .int .i64 n, .int .i64 o]) (t := 31) ?_; intro g hg w1 hb HB; have XB := Aside0.mk HB; have BK := Aside0.mk hb; obtain ⟨k0, k1, k2, k3, k4, k5, k6⟩ := cells7 hb; clear hg hb HB) | (go_at_call 28; refine (is_c _ _).mono ?_; rintro e w' ⟨rfl, rfl⟩) | (go_at_call 26; refine (refspan_c _ _ _ (by omega) (by omega)).mono ?_; rintro e w' ⟨rfl, rfl⟩))
      go_ret
      exact ⟨rfl, XB.out⟩
    ·have z3 : (c == 0) = false := by simpa using hz3
     clear hz3
     have HR : Aside0 (chkB 22 a c v t n o = false) := ⟨by simp_all [chkB]⟩
     rw [HR.out]
     go_enter Try.func10, Try.ntmps10
     go_wp2_with (first | ((with_reducible refine gate_dst (N := 1) rfl ?_); refine bx_ (N := 1) (cs := #[.int .i64 22, .int .i64 a, .int .i64 c, .slice A v.length cc, .int .i64 t, .int .i64 n, .int .i64 o]) (t := 31) ?_; intro g hg w1 hb HB; have XB := Aside0.mk HB; have BK := Aside0.mk hb; obtain ⟨k0, k1, k2, k3, k4, k5, k6⟩ := cells7 hb; clear hg hb HB) | (go_at_call 28; refine (is_c _ _).mono ?_; rintro e w' ⟨rfl, rfl⟩) | (go_at_call 26; refine (refspan_c _ _ _ (by omega) (by omega)).mono ?_; rintro e w' ⟨rfl, rfl⟩))
     go_ret
     exact ⟨rfl, XB.out⟩
   ·have z2 : (t == 0) = false := by simpa using hz2
    clear hz2
    have HR : Aside0 (chkB 22 a c v t n o = false) := ⟨by simp_all [chkB]⟩
    rw [HR.out]
    go_enter Try.func10, Try.ntmps10
    go_wp2_with (first | ((with_reducible refine gate_dst (N := 1) rfl ?_); refine bx_ (N := 1) (cs := #[.int .i64 22, .int .i64 a, .int .i64 c, .slice A v.length cc, .int .i64 t, .int .i64 n, .int .i64 o]) (t := 31) ?_; intro g hg w1 hb HB; have XB := Aside0.mk HB; have BK := Aside0.mk hb; obtain ⟨k0, k1, k2, k3, k4, k5, k6⟩ := cells7 hb; clear hg hb HB) | (go_at_call 28; refine (is_c _ _).mono ?_; rintro e w' ⟨rfl, rfl⟩) | (go_at_call 26; refine (refspan_c _ _ _ (by omega) (by omega)).mono ?_; rintro e w' ⟨rfl, rfl⟩))
    go_ret
    exact ⟨rfl, XB.out⟩
  ·have z1 : ((v.length : Int) == 0) = false := by simpa using hz1
   clear hz1
   have HR : Aside0 (chkB 22 a c v t n o = false) := ⟨by simp_all [chkB]⟩
   rw [HR.out]
   go_enter Try.func10, Try.ntmps10
   go_wp2_with (first | ((with_reducible refine gate_dst (N := 1) rfl ?_); refine bx_ (N := 1) (cs := #[.int .i64 22, .int .i64 a, .int .i64 c, .slice A v.length cc, .int .i64 t, .int .i64 n, .int .i64 o]) (t := 31) ?_; intro g hg w1 hb HB; have XB := Aside0.mk HB; have BK := Aside0.mk hb; obtain ⟨k0, k1, k2, k3, k4, k5, k6⟩ := cells7 hb; clear hg hb HB) | (go_at_call 28; refine (is_c _ _).mono ?_; rintro e w' ⟨rfl, rfl⟩) | (go_at_call 26; refine (refspan_c _ _ _ (by omega) (by omega)).mono ?_; rintro e w' ⟨rfl, rfl⟩))
   go_ret
   exact ⟨rfl, XB.out⟩
set_option maxHeartbeats 4000000 in
set_option maxRecDepth 100000 in
theorem may_f (f a c : Int) (A : Option Addr) (cc : Nat) (v : List Int) (t n o : Int) (w : World) (hV : Kd.C (Kd.int .i64) w A v.length v) (hf : f ≠ 1 ∧ f ≠ 2 ∧ f ≠ 3 ∧ f ≠ 4 ∧ f ≠ 5 ∧ f ≠ 6 ∧ f ≠ 15 ∧ f ≠ 16 ∧ f ≠ 22 ∧ f ≠ 23) : Calls Try.prog 10 #[.agg #[.int .i64 f, .int .i64 a, .int .i64 c, .slice A v.length cc, .int .i64 t, .int .i64 n, .int .i64 o]] w fun e w' => e = .returned (.bool (chkB f a c v t n o)) ∧ Below w.heap.size w w' := by
 have HV := Aside0.mk hV; clear hV
 obtain ⟨g1, g2, g3, g4, g5, g6, g7, g8, g9, g10⟩ := hf
 have HR : Aside0 (chkB f a c v t n o = false) := ⟨by unfold chkB; rw [if_neg (by omega), if_neg (by omega), if_neg g5, if_neg g6, if_neg g7, if_neg g8, if_neg g9, if_neg g10]⟩
 have y0 : (f == 1) = false := beq_eq_false_iff_ne.2 g1
 have y1 : (f == 2) = false := beq_eq_false_iff_ne.2 g2
 have y2 : (f == 3) = false := beq_eq_false_iff_ne.2 g3
 have y3 : (f == 4) = false := beq_eq_false_iff_ne.2 g4
 have y4 : (f == 5) = false := beq_eq_false_iff_ne.2 g5
 have y5 : (f == 6) = false := beq_eq_false_iff_ne.2 g6
 have y6 : (f == 15) = false := beq_eq_false_iff_ne.2 g7
 have y7 : (f == 16) = false := beq_eq_false_iff_ne.2 g8
 have y8 : (f == 22) = false := beq_eq_false_iff_ne.2 g9
 have y9 : (f == 23) = false := beq_eq_false_iff_ne.2 g10
 clear g1 g2 g3 g4 g5 g6 g7 g8 g9 g10
 rw [HR.out]
 by_cases hz0 : (n == 0) = true
 ·have z0 : (n == 0) = true := hz0; clear hz0
  by_cases hz1 : (o == 0) = true
  ·have z1 : (o == 0) = true := hz1; clear hz1
   go_enter Try.func10, Try.ntmps10
   go_wp2_with (first | ((with_reducible refine gate_dst (N := 1) rfl ?_); refine bx_ (N := 1) (cs := #[.int .i64 f, .int .i64 a, .int .i64 c, .slice A v.length cc, .int .i64 t, .int .i64 n, .int .i64 o]) (t := 31) ?_; intro g hg w1 hb HB; have XB := Aside0.mk HB; have BK := Aside0.mk hb; obtain ⟨k0, k1, k2, k3, k4, k5, k6⟩ := cells7 hb; clear hg hb HB) | (go_at_call 28; refine (is_c _ _).mono ?_; rintro e w' ⟨rfl, rfl⟩) | (go_at_call 26; refine (refspan_c _ _ _ (by omega) (by omega)).mono ?_; rintro e w' ⟨rfl, rfl⟩))
   go_ret
   exact ⟨rfl, XB.out⟩
  ·have z1 : (o == 0) = false := by simpa using hz1
   clear hz1
   go_enter Try.func10, Try.ntmps10
   go_wp2_with (first | ((with_reducible refine gate_dst (N := 1) rfl ?_); refine bx_ (N := 1) (cs := #[.int .i64 f, .int .i64 a, .int .i64 c, .slice A v.length cc, .int .i64 t, .int .i64 n, .int .i64 o]) (t := 31) ?_; intro g hg w1 hb HB; have XB := Aside0.mk HB; have BK := Aside0.mk hb; obtain ⟨k0, k1, k2, k3, k4, k5, k6⟩ := cells7 hb; clear hg hb HB) | (go_at_call 28; refine (is_c _ _).mono ?_; rintro e w' ⟨rfl, rfl⟩) | (go_at_call 26; refine (refspan_c _ _ _ (by omega) (by omega)).mono ?_; rintro e w' ⟨rfl, rfl⟩))
   go_ret
   exact ⟨rfl, XB.out⟩
 ·have z0 : (n == 0) = false := by simpa using hz0
  clear hz0
  go_enter Try.func10, Try.ntmps10
  go_wp2_with (first | ((with_reducible refine gate_dst (N := 1) rfl ?_); refine bx_ (N := 1) (cs := #[.int .i64 f, .int .i64 a, .int .i64 c, .slice A v.length cc, .int .i64 t, .int .i64 n, .int .i64 o]) (t := 31) ?_; intro g hg w1 hb HB; have XB := Aside0.mk HB; have BK := Aside0.mk hb; obtain ⟨k0, k1, k2, k3, k4, k5, k6⟩ := cells7 hb; clear hg hb HB) | (go_at_call 28; refine (is_c _ _).mono ?_; rintro e w' ⟨rfl, rfl⟩) | (go_at_call 26; refine (refspan_c _ _ _ (by omega) (by omega)).mono ?_; rintro e w' ⟨rfl, rfl⟩))
  go_ret
  exact ⟨rfl, XB.out⟩
end Go.Proofs.Ytlalpooiegganaa.Chk
end

section
namespace Go.Proofs.Ytlalpooiegganaa.Chk
open Go.RowKit Go.Proofs.YtlalpooiegganaaW.PrintWords Go.Proofs.YtlalpooiegganaaW.PrintLast Go.Proofs.YtlalpooiegganaaW.PrintMore Go.Proofs.Ytlalpooiegganaa.Core Go.Proofs.Ytlalpooiegganaa.Wk
set_option linter.unusedVariables false
set_option linter.unusedSimpArgs false
set_option maxHeartbeats 4000000 in
set_option maxRecDepth 100000 in
theorem may_23 (a c : Int) (A : Option Addr) (cc : Nat) (v : List Int) (t n o : Int) (w : World) (hV : Kd.C (Kd.int .i64) w A v.length v) : Calls Try.prog 10 #[.agg #[.int .i64 23, .int .i64 a, .int .i64 c, .slice A v.length cc, .int .i64 t, .int .i64 n, .int .i64 o]] w fun e w' => e = .returned (.bool (chkB 23 a c v t n o)) ∧ Below w.heap.size w w' := by
 have HV := Aside0.mk hV; clear hV
 by_cases hz0 : (n == 0) = true
 ·have z0 : (n == 0) = true := hz0; clear hz0
  by_cases hz1 : (o == 0) = true
  ·have z1 : (o == 0) = true := hz1; clear hz1
   by_cases hz2 : decide (1 ≤ c) = true
   ·have z2 : decide (1 ≤ c) = true := hz2; clear hz2; have pz2 := of_decide_eq_true z2
    by_cases hz3 : decide (c ≤ 125) = true
    ·have z3 : decide (c ≤ 125) = true := hz3; clear hz3; have pz3 := of_decide_eq_true z3
     by_cases hz4 : spB a c = true
     ·have z4 : spB a c = true := hz4; clear hz4
      by_cases hz5 : smB 1 121 65535 v = true
      ·have z5 : smB 1 121 65535 v = true := hz5; clear hz5; have pz5 := smB_len z5
       by_cases hz6 : spB t v.length = true
       ·have z6 : spB t v.length = true := hz6; clear hz6
        have HR : Aside0 (chkB 23 a c v t n o = true) := ⟨by simp_all [chkB, wB] <;> (intros; omega)⟩
        rw [HR.out]
        go_enter Try.func10, Try.ntmps10
        go_wp2_with (first | ((with_reducible refine gate_dst (N := 1) rfl ?_); refine bx_ (N := 1) (cs := #[.int .i64 23, .int .i64 a, .int .i64 c, .slice A v.length cc, .int .i64 t, .int .i64 n, .int .i64 o]) (t := 31) ?_; intro g hg w1 hb HB; have XB := Aside0.mk HB; have BK := Aside0.mk hb; obtain ⟨k0, k1, k2, k3, k4, k5, k6⟩ := cells7 hb; clear hg hb HB) | (go_at_call 28; refine (is_c _ _).mono ?_; rintro e w' ⟨rfl, rfl⟩) | (go_at_call 26; refine (refspan_c _ _ _ (by omega) (by omega)).mono ?_; rintro e w' ⟨rfl, rfl⟩) | (go_at_call 27; refine (vals_c 23 a c A cc v t n o _ _ _ (Kd.C_below HV.out XB.out) (m := 65535) (by decide)).mono ?_; rintro e w2 ⟨rfl, HB⟩; have XBn := Aside0.mk (below_step XB.out HB); have BKn := Aside0.mk (blk_below BK.out HB); obtain ⟨k0, k1, k2, k3, k4, k5, k6⟩ := cells7 BKn.out; clear HB XB BK; have XB := XBn; have BK := BKn))
        go_ret
        exact ⟨rfl, XB.out⟩
       ·have z6 : spB t v.length = false := by simpa using hz6
        clear hz6
        have HR : Aside0 (chkB 23 a c v t n o = false) := ⟨by simp_all [chkB, wB] <;> (intros; omega)⟩
        rw [HR.out]
        go_enter Try.func10, Try.ntmps10
        go_wp2_with (first | ((with_reducible refine gate_dst (N := 1) rfl ?_); refine bx_ (N := 1) (cs := #[.int .i64 23, .int .i64 a, .int .i64 c, .slice A v.length cc, .int .i64 t, .int .i64 n, .int .i64 o]) (t := 31) ?_; intro g hg w1 hb HB; have XB := Aside0.mk HB; have BK := Aside0.mk hb; obtain ⟨k0, k1, k2, k3, k4, k5, k6⟩ := cells7 hb; clear hg hb HB) | (go_at_call 28; refine (is_c _ _).mono ?_; rintro e w' ⟨rfl, rfl⟩) | (go_at_call 26; refine (refspan_c _ _ _ (by omega) (by omega)).mono ?_; rintro e w' ⟨rfl, rfl⟩) | (go_at_call 27; refine (vals_c 23 a c A cc v t n o _ _ _ (Kd.C_below HV.out XB.out) (m := 65535) (by decide)).mono ?_; rintro e w2 ⟨rfl, HB⟩; have XBn := Aside0.mk (below_step XB.out HB); have BKn := Aside0.mk (blk_below BK.out HB); obtain ⟨k0, k1, k2, k3, k4, k5, k6⟩ := cells7 BKn.out; clear HB XB BK; have XB := XBn; have BK := BKn))
        go_ret
        exact ⟨rfl, XB.out⟩
      ·have z5 : smB 1 121 65535 v = false := by simpa using hz5
       clear hz5
       have HR : Aside0 (chkB 23 a c v t n o = false) := ⟨by simp_all [chkB, wB] <;> (intros; omega)⟩
       rw [HR.out]
       go_enter Try.func10, Try.ntmps10
       go_wp2_with (first | ((with_reducible refine gate_dst (N := 1) rfl ?_); refine bx_ (N := 1) (cs := #[.int .i64 23, .int .i64 a, .int .i64 c, .slice A v.length cc, .int .i64 t, .int .i64 n, .int .i64 o]) (t := 31) ?_; intro g hg w1 hb HB; have XB := Aside0.mk HB; have BK := Aside0.mk hb; obtain ⟨k0, k1, k2, k3, k4, k5, k6⟩ := cells7 hb; clear hg hb HB) | (go_at_call 28; refine (is_c _ _).mono ?_; rintro e w' ⟨rfl, rfl⟩) | (go_at_call 26; refine (refspan_c _ _ _ (by omega) (by omega)).mono ?_; rintro e w' ⟨rfl, rfl⟩) | (go_at_call 27; refine (vals_c 23 a c A cc v t n o _ _ _ (Kd.C_below HV.out XB.out) (m := 65535) (by decide)).mono ?_; rintro e w2 ⟨rfl, HB⟩; have XBn := Aside0.mk (below_step XB.out HB); have BKn := Aside0.mk (blk_below BK.out HB); obtain ⟨k0, k1, k2, k3, k4, k5, k6⟩ := cells7 BKn.out; clear HB XB BK; have XB := XBn; have BK := BKn))
       go_ret
       exact ⟨rfl, XB.out⟩
     ·have z4 : spB a c = false := by simpa using hz4
      clear hz4
      have HR : Aside0 (chkB 23 a c v t n o = false) := ⟨by simp_all [chkB, wB] <;> (intros; omega)⟩
      rw [HR.out]
      go_enter Try.func10, Try.ntmps10
      go_wp2_with (first | ((with_reducible refine gate_dst (N := 1) rfl ?_); refine bx_ (N := 1) (cs := #[.int .i64 23, .int .i64 a, .int .i64 c, .slice A v.length cc, .int .i64 t, .int .i64 n, .int .i64 o]) (t := 31) ?_; intro g hg w1 hb HB; have XB := Aside0.mk HB; have BK := Aside0.mk hb; obtain ⟨k0, k1, k2, k3, k4, k5, k6⟩ := cells7 hb; clear hg hb HB) | (go_at_call 28; refine (is_c _ _).mono ?_; rintro e w' ⟨rfl, rfl⟩) | (go_at_call 26; refine (refspan_c _ _ _ (by omega) (by omega)).mono ?_; rintro e w' ⟨rfl, rfl⟩) | (go_at_call 27; refine (vals_c 23 a c A cc v t n o _ _ _ (Kd.C_below HV.out XB.out) (m := 65535) (by decide)).mono ?_; rintro e w2 ⟨rfl, HB⟩; have XBn := Aside0.mk (below_step XB.out HB); have BKn := Aside0.mk (blk_below BK.out HB); obtain ⟨k0, k1, k2, k3, k4, k5, k6⟩ := cells7 BKn.out; clear HB XB BK; have XB := XBn; have BK := BKn))
      go_ret
      exact ⟨rfl, XB.out⟩
    ·have z3 : decide (c ≤ 125) = false := by simpa using hz3
     clear hz3
     have HR : Aside0 (chkB 23 a c v t n o = false) := ⟨by simp_all [chkB, wB] <;> (intros; omega)⟩
     rw [HR.out]
     go_enter Try.func10, Try.ntmps10
     go_wp2_with (first | ((with_reducible refine gate_dst (N := 1) rfl ?_); refine bx_ (N := 1) (cs := #[.int .i64 23, .int .i64 a, .int .i64 c, .slice A v.length cc, .int .i64 t, .int .i64 n, .int .i64 o]) (t := 31) ?_; intro g hg w1 hb HB; have XB := Aside0.mk HB; have BK := Aside0.mk hb; obtain ⟨k0, k1, k2, k3, k4, k5, k6⟩ := cells7 hb; clear hg hb HB) | (go_at_call 28; refine (is_c _ _).mono ?_; rintro e w' ⟨rfl, rfl⟩) | (go_at_call 26; refine (refspan_c _ _ _ (by omega) (by omega)).mono ?_; rintro e w' ⟨rfl, rfl⟩) | (go_at_call 27; refine (vals_c 23 a c A cc v t n o _ _ _ (Kd.C_below HV.out XB.out) (m := 65535) (by decide)).mono ?_; rintro e w2 ⟨rfl, HB⟩; have XBn := Aside0.mk (below_step XB.out HB); have BKn := Aside0.mk (blk_below BK.out HB); obtain ⟨k0, k1, k2, k3, k4, k5, k6⟩ := cells7 BKn.out; clear HB XB BK; have XB := XBn; have BK := BKn))
     go_ret
     exact ⟨rfl, XB.out⟩
   ·have z2 : decide (1 ≤ c) = false := by simpa using hz2
    clear hz2
    have HR : Aside0 (chkB 23 a c v t n o = false) := ⟨by simp_all [chkB, wB] <;> (intros; omega)⟩
    rw [HR.out]
    go_enter Try.func10, Try.ntmps10
    go_wp2_with (first | ((with_reducible refine gate_dst (N := 1) rfl ?_); refine bx_ (N := 1) (cs := #[.int .i64 23, .int .i64 a, .int .i64 c, .slice A v.length cc, .int .i64 t, .int .i64 n, .int .i64 o]) (t := 31) ?_; intro g hg w1 hb HB; have XB := Aside0.mk HB; have BK := Aside0.mk hb; obtain ⟨k0, k1, k2, k3, k4, k5, k6⟩ := cells7 hb; clear hg hb HB) | (go_at_call 28; refine (is_c _ _).mono ?_; rintro e w' ⟨rfl, rfl⟩) | (go_at_call 26; refine (refspan_c _ _ _ (by omega) (by omega)).mono ?_; rintro e w' ⟨rfl, rfl⟩) | (go_at_call 27; refine (vals_c 23 a c A cc v t n o _ _ _ (Kd.C_below HV.out XB.out) (m := 65535) (by decide)).mono ?_; rintro e w2 ⟨rfl, HB⟩; have XBn := Aside0.mk (below_step XB.out HB); have BKn := Aside0.mk (blk_below BK.out HB); obtain ⟨k0, k1, k2, k3, k4, k5, k6⟩ := cells7 BKn.out; clear HB XB BK; have XB := XBn; have BK := BKn))
    go_ret
    exact ⟨rfl, XB.out⟩
  ·have z1 : (o == 0) = false := by simpa using hz1
   clear hz1
   have HR : Aside0 (chkB 23 a c v t n o = false) := ⟨by simp_all [chkB, wB] <;> (intros; omega)⟩
   rw [HR.out]
   go_enter Try.func10, Try.ntmps10
   go_wp2_with (first | ((with_reducible refine gate_dst (N := 1) rfl ?_); refine bx_ (N := 1) (cs := #[.int .i64 23, .int .i64 a, .int .i64 c, .slice A v.length cc, .int .i64 t, .int .i64 n, .int .i64 o]) (t := 31) ?_; intro g hg w1 hb HB; have XB := Aside0.mk HB; have BK := Aside0.mk hb; obtain ⟨k0, k1, k2, k3, k4, k5, k6⟩ := cells7 hb; clear hg hb HB) | (go_at_call 28; refine (is_c _ _).mono ?_; rintro e w' ⟨rfl, rfl⟩) | (go_at_call 26; refine (refspan_c _ _ _ (by omega) (by omega)).mono ?_; rintro e w' ⟨rfl, rfl⟩) | (go_at_call 27; refine (vals_c 23 a c A cc v t n o _ _ _ (Kd.C_below HV.out XB.out) (m := 65535) (by decide)).mono ?_; rintro e w2 ⟨rfl, HB⟩; have XBn := Aside0.mk (below_step XB.out HB); have BKn := Aside0.mk (blk_below BK.out HB); obtain ⟨k0, k1, k2, k3, k4, k5, k6⟩ := cells7 BKn.out; clear HB XB BK; have XB := XBn; have BK := BKn))
   go_ret
   exact ⟨rfl, XB.out⟩
 ·have z0 : (n == 0) = false := by simpa using hz0
  clear hz0
  have HR : Aside0 (chkB 23 a c v t n o = false) := ⟨by simp_all [chkB, wB] <;> (intros; omega)⟩
  rw [HR.out]
  go_enter Try.func10, Try.ntmps10
  go_wp2_with (first | ((with_reducible refine gate_dst (N := 1) rfl ?_); refine bx_ (N := 1) (cs := #[.int .i64 23, .int .i64 a, .int .i64 c, .slice A v.length cc, .int .i64 t, .int .i64 n, .int .i64 o]) (t := 31) ?_; intro g hg w1 hb HB; have XB := Aside0.mk HB; have BK := Aside0.mk hb; obtain ⟨k0, k1, k2, k3, k4, k5, k6⟩ := cells7 hb; clear hg hb HB) | (go_at_call 28; refine (is_c _ _).mono ?_; rintro e w' ⟨rfl, rfl⟩) | (go_at_call 26; refine (refspan_c _ _ _ (by omega) (by omega)).mono ?_; rintro e w' ⟨rfl, rfl⟩) | (go_at_call 27; refine (vals_c 23 a c A cc v t n o _ _ _ (Kd.C_below HV.out XB.out) (m := 65535) (by decide)).mono ?_; rintro e w2 ⟨rfl, HB⟩; have XBn := Aside0.mk (below_step XB.out HB); have BKn := Aside0.mk (blk_below BK.out HB); obtain ⟨k0, k1, k2, k3, k4, k5, k6⟩ := cells7 BKn.out; clear HB XB BK; have XB := XBn; have BK := BKn))
  go_ret
  exact ⟨rfl, XB.out⟩
end Go.Proofs.Ytlalpooiegganaa.Chk
end

section
namespace Go.Proofs.Ytlalpooiegganaa.Chk
open Go.RowKit Go.Proofs.YtlalpooiegganaaW.PrintWords Go.Proofs.YtlalpooiegganaaW.PrintLast Go.Proofs.YtlalpooiegganaaW.PrintMore Go.Proofs.Ytlalpooiegganaa.Core Go.Proofs.Ytlalpooiegganaa.Wk
set_option linter.unusedVariables false
set_option linter.unusedSimpArgs false
theorem chk_c (f a c : Int) (A : Option Addr) (cc : Nat) (v : List Int) (t n o : Int) (w : World) (hV : Kd.C (Kd.int .i64) w A v.length v) : Calls Try.prog 29 #[.agg #[.int .i64 f, .int .i64 a, .int .i64 c, .slice A v.length cc, .int .i64 t, .int .i64 n, .int .i64 o]] w fun e w' => e = .returned (.int .i64 (if chkB f a c v t n o then 0 else 1)) ∧ Below w.heap.size w w' := by
 by_cases h0 : f = 1
 ·subst h0; exact chk_1 a c A cc v t n o w hV
 by_cases h1 : f = 2
 ·subst h1; exact chk_2 a c A cc v t n o w hV
 by_cases h2 : f = 3
 ·subst h2; exact chk_3 a c A cc v t n o w hV
 by_cases h3 : f = 4
 ·subst h3; exact chk_4 a c A cc v t n o w hV
 by_cases h4 : f = 5
 ·subst h4; exact chk_5 a c A cc v t n o w hV
 by_cases h5 : f = 6
 ·subst h5; exact chk_6 a c A cc v t n o w hV
 by_cases h6 : f = 15
 ·subst h6; exact chk_15 a c A cc v t n o w hV
 by_cases h7 : f = 16
 ·subst h7; exact chk_16 a c A cc v t n o w hV
 by_cases h8 : f = 22
 ·subst h8; exact chk_22 a c A cc v t n o w hV
 by_cases h9 : f = 23
 ·subst h9; exact chk_23 a c A cc v t n o w hV
 exact chk_f f a c A cc v t n o w hV ⟨h0, h1, h2, h3, h4, h5, h6, h7, h8, h9⟩
theorem may_c (f a c : Int) (A : Option Addr) (cc : Nat) (v : List Int) (t n o : Int) (w : World) (hV : Kd.C (Kd.int .i64) w A v.length v) : Calls Try.prog 10 #[.agg #[.int .i64 f, .int .i64 a, .int .i64 c, .slice A v.length cc, .int .i64 t, .int .i64 n, .int .i64 o]] w fun e w' => e = .returned (.bool (chkB f a c v t n o)) ∧ Below w.heap.size w w' := by
 by_cases h0 : f = 1
 ·subst h0; exact may_1 a c A cc v t n o w hV
 by_cases h1 : f = 2
 ·subst h1; exact may_2 a c A cc v t n o w hV
 by_cases h2 : f = 3
 ·subst h2; exact may_3 a c A cc v t n o w hV
 by_cases h3 : f = 4
 ·subst h3; exact may_4 a c A cc v t n o w hV
 by_cases h4 : f = 5
 ·subst h4; exact may_5 a c A cc v t n o w hV
 by_cases h5 : f = 6
 ·subst h5; exact may_6 a c A cc v t n o w hV
 by_cases h6 : f = 15
 ·subst h6; exact may_15 a c A cc v t n o w hV
 by_cases h7 : f = 16
 ·subst h7; exact may_16 a c A cc v t n o w hV
 by_cases h8 : f = 22
 ·subst h8; exact may_22 a c A cc v t n o w hV
 by_cases h9 : f = 23
 ·subst h9; exact may_23 a c A cc v t n o w hV
 exact may_f f a c A cc v t n o w hV ⟨h0, h1, h2, h3, h4, h5, h6, h7, h8, h9⟩
theorem chk_yes (f a c : Int) (A : Option Addr) (cc : Nat) (v : List Int) (t n o : Int) (w : World) (hV : Kd.C (Kd.int .i64) w A v.length v) {b : Bool} (hb : chkB f a c v t n o = b) {x : Int} (hx : (if b then 0 else 1) = x) : Calls Try.prog 29 #[.agg #[.int .i64 f, .int .i64 a, .int .i64 c, .slice A v.length cc, .int .i64 t, .int .i64 n, .int .i64 o]] w fun e w' => e = .returned (.int .i64 x) ∧ Below w.heap.size w w' := by
 have h := chk_c f a c A cc v t n o w hV
 rw [hb] at h
 rw [← hx]
 exact h
end Go.Proofs.Ytlalpooiegganaa.Chk
end

section
namespace Go.Proofs.Ytlalpooiegganaa.MsgB
open Go.RowKit Go.Proofs.YtlalpooiegganaaW.PrintWords Go.Proofs.YtlalpooiegganaaW.PrintLast Go.Proofs.YtlalpooiegganaaW.PrintMore Go.Proofs.Ytlalpooiegganaa.Core Go.Proofs.Ytlalpooiegganaa.Wk Go.Proofs.Ytlalpooiegganaa.PMasterWaits Go.Proofs.Ytlalpooiegganaa.Msg
set_option linter.unusedVariables false
set_option linter.unusedSimpArgs false
section
variable {P : Program} {ops : Array Oper} {o : Oper} {a : Act} {Q : Exit → Act → World → Prop} {Kc : Act → World → Prop} {α : Type}
theorem ev_append_step (d : Kd α) {M : Nat → Prop} {w0 W : World} (base : Nat) (hw : Region.wanted o (yielded ops a.tmps) = true) (s x : Operand) (t e : TypeId) (z : Value) (bytes : Nat)
 (ho : o.op = .call { callee := .builtin .append, args := #[s, x], argTypes := #[t, t] })
 (ht : P.underlying t = some (.slice e)) (hinfo : (P.info? e).map (fun i => (i.zero, i.size, i.bytes)) = some (some z, d.sz, bytes)) (hz : z.cells.size = d.sz) (hs0 : 0 < d.sz) (hb0 : 0 < bytes)
 (v : Value) (xs : List α) (p : α) (ys : List Value) (hs : a.eval s = v) (hx : a.eval x = .slice (some ⟨W.heap.size, 0, none⟩) 1 1)
 (HO : OwnE d M e base W v xs) (hp : Ever (Mv M v) W (fun W => d.K W p ys)) (HB : Below base w0 W) (hbase : base ≤ W.heap.size) (hl : (xs.length + 1) * bytes ≤ 140737488355328)
 (h : ∀ v1 w1, OwnE d M e base w1 v1 (xs ++ [p]) → Below base w0 w1 → W.grownBy w1 v.ownBlock → (v1.ownBlock = v.ownBlock ∨ ∃ b, v1.ownBlock = some b ∧ W.heap.size ≤ b) → Kc (a.put o.dst v1) w1) :
 if Region.wanted o (yielded ops a.tmps) = true then Oper.wp P o a (W.alloc (.cells ys.toArray e)) Kc Q else Kc (a.put o.dst undef) (W.alloc (.cells ys.toArray e)) := by
 obtain ⟨inner, hown, hr⟩ := HO
 refine step_append_cells base hw s x t e z d.sz bytes ho ht hinfo hz hs0 hb0 v xs.length inner ys hs hx (d.K_len hp.now) (d.K_one hp.now) hown HB hbase hl (fun v1 w1 h1 h2 h3 h4 => ?_)
 have hE : Ext (Mv M v) W w1 := Ext.of_grown h3
 refine h v1 w1 ⟨inner ++ ys, by rw [List.length_append, List.length_singleton]; exact h1, ?_⟩ h2 h3 h4
 exact (hr.imp_ (fun _ _ k => k.grow hE (Mv_grow (w1 := w1) h4))).snoc (hp.grow hE (Mv_grow (w1 := w1) h4)) (d.K_len hp.now)
end
theorem IsOut.app {B : Nat} {W W' : World} {vl vo v' : Value} {o : Option (SV)} (h : IsOut B W vl vo o) (k : Ext (Mv (fun _ => False) vl) W W') (hat : v'.ownBlock = vl.ownBlock ∨ ∃ b, v'.ownBlock = some b ∧ W.heap.size ≤ b) : IsOut B W' v' vo o := by
 cases o with
 | none => exact h
 | some x =>
  obtain ⟨go, h1, h2, h3, h4⟩ := h
  refine ⟨go, h1, Ext.blk k h2 (fun e => e.elim (fun a => a) (fun a => h4 go a.symm rfl)), h3, fun j hj e => ?_⟩
  rcases hat with a | ⟨b, a, hb⟩
  ·exact h4 j (a.symm.trans hj) e
  ·have := blk_lt h2
   rw [hj] at a
   injection a with a
   omega
theorem keeps_app {B : Nat} {W W' : World} {vl : Value} {l : List SV} (h : OwnE ks (fun _ => False) 39 B W vl l) (k : Ext (Mv (fun _ => False) vl) W W') : Keeps W W' := fun j cs T hc _ h2 =>
 Ext.blk k hc (fun e => by
  rcases e with e | e
  ·exact e
  ·obtain ⟨i, h1, _⟩ := h
   obtain ⟨cells, hb⟩ := own_typed h1 j e.symm
   rw [hb] at hc
   injection hc with hc
   injection hc with _ hc _
   exact h2 hc.symm)
theorem chk_q {q : SV} {vs : List Int} {w : World} (hC : Kd.C (Kd.int .i64) w q.A vs.length vs) (hl : vs.length = q.l) (hb : Chk.chkB q.f q.a q.c vs q.o q.n q.r = true) : Calls Try.prog 29 #[.agg #[.int .i64 q.f, .int .i64 q.a, .int .i64 q.c, .slice q.A q.l q.k, .int .i64 q.o, .int .i64 q.n, .int .i64 q.r]] w fun e w' => e = .returned (.int .i64 0) ∧ Below w.heap.size w w' := by
 rw [← hl]
 exact Chk.chk_yes q.f q.a q.c q.A q.k vs q.o q.n q.r w hC hb rfl
theorem clone_q {q : SV} {vs : List Int} {w : World} (hC : Kd.C (Kd.int .i64) w q.A vs.length vs) (hl : vs.length = q.l) (hb : vs.length ≤ 100000) : Calls Try.prog 30 #[.slice q.A q.l q.k] w fun e w' => ∃ A' k', e = .returned (.slice A' q.l k') ∧ q.l ≤ k' ∧ IRow w' A' q.l vs ∧ Below w.heap.size w w' := by
 rw [← hl]
 exact clone_k hC hb
set_option maxHeartbeats 4000000 in
set_option maxRecDepth 100000 in
theorem ask_c {B : Nat} {w : World} {g m : Nat} {wait again pause now tk times last : Int} {line : List (SV)} {rest : Int → Int} {out : Option SV} {q : SV} {vs : List Int} (h : IsM B w g m ⟨wait, again, pause, now, tk, line, out, times, last, rest⟩) (hB : B ≤ w.heap.size) (unit : Int) (h0 : 0 ≤ unit) (h1 : unit ≤ 247) (hl : line.length < 64) (hV : Ever (Mm B g m) w (fun W => Kd.C (Kd.int .i64) W q.A vs.length vs)) (hvl : vs.length = q.l) (hvs : vs.length ≤ 100000) (hck : Chk.chkB q.f q.a q.c vs q.o q.n q.r = true) : Calls Try.prog 11 #[.pointer (some ⟨g, 0, none⟩), .int .i64 unit, .agg #[.int .i64 q.f, .int .i64 q.a, .int .i64 q.c, .slice q.A q.l q.k, .int .i64 q.o, .int .i64 q.n, .int .i64 q.r]] w fun e w' => ∃ A' k', e = .returned (.tuple #[.int .i64 (wrap64 (tk + 1)), .int .i64 0]) ∧ q.l ≤ k' ∧ IRow w' A' q.l vs ∧ IsM B w' g m ⟨wait, again, pause, now, wrap64 (tk + 1), line ++ [⟨wrap64 (tk + 1), unit, q.f, q.a, q.c, A', q.l, k', q.o, q.n, q.r⟩], out, times, last, rest⟩ ∧ Ext (Mm B g m) w w' ∧ Keeps w w' := by
 have q0 : decide (unit < 0) = false := decide_eq_false (by omega)
 have q1 : decide (247 < unit) = false := decide_eq_false (by omega)
 have q2 : decide (64 ≤ (line.length : Int)) = false := decide_eq_false (by omega)
 have HLL := Aside0.mk hl; have HV := Aside0.mk hV; have HVL := Aside0.mk hvl; have HVS := Aside0.mk hvs; have HCK := Aside0.mk hck
 clear h0 h1 hl hV hvl hvs hck
 have HBW := Aside0.mk hB
 obtain ⟨⟨vl, vo, hb, hl, ho⟩, ⟨f, n, hm, hf⟩⟩ := h
 have BK_g : Aside0 (w.heap[g]? = some (.cells #[.int .i64 wait, .int .i64 again, .int .i64 pause, .int .i64 now, .int .i64 tk, vl, vo, .int .i64 times, .int .i64 last, .map (some m)] 73 (0, 0))) := ⟨hb⟩
 have OB_l : Aside0 (OwnE ks (fun _ => False) 39 B w vl (line)) := ⟨hl⟩
 have MP_m := Aside0.mk hm; have HF := Aside0.mk hf
 have NE_l_g : Aside0 (∀ k, (vl).ownBlock = some k → k ≠ g) := ⟨ks_ne hl hb (by decide)⟩; have NE_l_m : Aside0 (∀ k, (vl).ownBlock = some k → k ≠ m) := ⟨ks_nm hl hm⟩; have NE_g_m : Aside0 (g ≠ m) := ⟨cell_nm hb hm⟩; have NE_m_g : Aside0 (m ≠ g) := ⟨fun e => NE_g_m.out e.symm⟩; have F_g : Aside0 (∀ k, k = g → Mm B g m k ∨ w.heap.size ≤ k) := ⟨fun k e => .inl (.inl e)⟩; have F_m : Aside0 (∀ k, k = m → Mm B g m k ∨ w.heap.size ≤ k) := ⟨fun k e => .inl (.inr (.inl e))⟩
 have HO : Aside0 (IsOut B w vl vo out) := ⟨ho⟩; clear ho
 clear hb hl hm hf hB
 have XT : Aside0 (Ext (Mm B g m) w w) := ⟨Ext.refl _ _⟩
 refine cl10_ BK_g.out ?_; intro lc1_0 lc1_1 lc1_2 lc1_3 lc1_4 lc1_5 lc1_6 lc1_7 lc1_8 lc1_9 lf1_0 lf1_1 lf1_2 lf1_3 lf1_4 lf1_5 lf1_6 lf1_7 lf1_8 lf1_9
 have hu31 := Try.underlying31; have hu39 := Try.underlying39
 obtain ⟨A, c, rfl⟩ := OB_l.out.slice
 have KP : Aside0 (Keeps w w) := ⟨fun _ _ _ h _ _ => h⟩
 go_enter Try.func11, Try.ntmps11
 go_upto_region 9 with (first | ((with_reducible refine gate_dst (N := 5) rfl ?_); refine bx_ (N := 5) (cs := #[.int .i64 q.f, .int .i64 q.a, .int .i64 q.c, .slice q.A q.l q.k, .int .i64 q.o, .int .i64 q.n, .int .i64 q.r]) (t := 31) ?_; intro b hg w1 hbox HBc; have NE_l_b : Aside0 (∀ k, ((Value.slice A line.length c)).ownBlock = some k → k ≠ b) := ⟨fun k hk e => by have := OwnE.lt OB_l.out k hk; omega⟩; have NE_g_b : Aside0 (g ≠ b) := ⟨ne_born (blk_lt BK_g.out) hg⟩; have NE_b_g : Aside0 (b ≠ g) := ⟨fun e => NE_g_b.out e.symm⟩; have NE_m_b : Aside0 (m ≠ b) := ⟨ne_born (IsMap.lt MP_m.out) hg⟩; have NE_b_m : Aside0 (b ≠ m) := ⟨fun e => NE_m_b.out e.symm⟩; have F_b : Aside0 (∀ k, k = b → (Mm B g m) k ∨ w.heap.size ≤ k) := ⟨fnew hg XT.out.size⟩; have RG_b : Aside0 (w.heap.size ≤ b) := ⟨Nat.le_trans XT.out.size (Nat.le_of_eq hg.symm)⟩; have BG_b : Aside0 (B ≤ b) := ⟨Nat.le_trans HBW.out RG_b.out⟩; clear hg; replace OB_l := Aside0.mk (ks_mv OB_l.out (Ext.none_ HBc) (fun _ _ e => e)); replace KP := Aside0.mk (keeps_then KP.out HBc); replace HO := Aside0.mk (HO.out.below HBc); clear lc1_0 lc1_1 lc1_2 lc1_3 lc1_4 lc1_5 lc1_6 lc1_7 lc1_8 lc1_9 lf1_0 lf1_1 lf1_2 lf1_3 lf1_4 lf1_5 lf1_6 lf1_7 lf1_8 lf1_9; replace BK_g := Aside0.mk (Ext.blk (Ext.none_ HBc) BK_g.out (fun e => e)); replace MP_m := Aside0.mk (IsMap.ext MP_m.out (Ext.none_ HBc) (fun e => e)); replace XT := Aside0.mk (XT.out.stepB HBc); have BK_b : Aside0 (w1.heap[b]? = some (.cells #[.int .i64 q.f, .int .i64 q.a, .int .i64 q.c, .slice q.A q.l q.k, .int .i64 q.o, .int .i64 q.n, .int .i64 q.r] 31 (0, 0))) := ⟨hbox⟩; clear hbox HBc; refine cl10_ BK_g.out ?_; intro lc2_0 lc2_1 lc2_2 lc2_3 lc2_4 lc2_5 lc2_6 lc2_7 lc2_8 lc2_9 lf2_0 lf2_1 lf2_2 lf2_3 lf2_4 lf2_5 lf2_6 lf2_7 lf2_8 lf2_9; refine cl7_ BK_b.out ?_; intro lc3_0 lc3_1 lc3_2 lc3_3 lc3_4 lc3_5 lc3_6 lf3_0 lf3_1 lf3_2 lf3_3 lf3_4 lf3_5 lf3_6) | (go_at_call 29; refine (chk_q (HV.out.at_ _ XT.out) HVL.out HCK.out).mono ?_; rintro e w2 ⟨rfl, HBc⟩; replace OB_l := Aside0.mk (ks_mv OB_l.out (Ext.none_ HBc) (fun _ _ e => e)); replace KP := Aside0.mk (keeps_then KP.out HBc); replace HO := Aside0.mk (HO.out.below HBc); clear lc2_0 lc2_1 lc2_2 lc2_3 lc2_4 lc2_5 lc2_6 lc2_7 lc2_8 lc2_9 lf2_0 lf2_1 lf2_2 lf2_3 lf2_4 lf2_5 lf2_6 lf2_7 lf2_8 lf2_9 lc3_0 lc3_1 lc3_2 lc3_3 lc3_4 lc3_5 lc3_6 lf3_0 lf3_1 lf3_2 lf3_3 lf3_4 lf3_5 lf3_6; replace BK_g := Aside0.mk (Ext.blk (Ext.none_ HBc) BK_g.out (fun e => e)); replace BK_b := Aside0.mk (Ext.blk (Ext.none_ HBc) BK_b.out (fun e => e)); replace MP_m := Aside0.mk (IsMap.ext MP_m.out (Ext.none_ HBc) (fun e => e)); replace XT := Aside0.mk (XT.out.stepB HBc); clear HBc; refine cl10_ BK_g.out ?_; intro lc4_0 lc4_1 lc4_2 lc4_3 lc4_4 lc4_5 lc4_6 lc4_7 lc4_8 lc4_9 lf4_0 lf4_1 lf4_2 lf4_3 lf4_4 lf4_5 lf4_6 lf4_7 lf4_8 lf4_9; refine cl7_ BK_b.out ?_; intro lc5_0 lc5_1 lc5_2 lc5_3 lc5_4 lc5_5 lc5_6 lf5_0 lf5_1 lf5_2 lf5_3 lf5_4 lf5_5 lf5_6) | ((with_reducible refine gate_store (p := 36) rfl ?_); refine store_event (w1 := ?_) rfl (p := 36) rfl rfl ?hr ?_; rotate_left; (case hr => go_simp; rfl); intro w3 hw_; obtain ⟨hput, HEc⟩ := put1 (cs' := #[.int .i64 wait, .int .i64 again, .int .i64 pause, .int .i64 now, .int .i64 (wrap64 (tk + 1)), .slice A line.length c, vo, .int .i64 times, .int .i64 last, .map (some m)]) hw_ BK_g.out rfl; clear hw_; replace OB_l := Aside0.mk (ks_mv OB_l.out HEc NE_l_g.out); replace KP := Aside0.mk (keeps_set KP.out HEc BK_g.out (.inl rfl)); replace HO := Aside0.mk (HO.out.set HEc BK_g.out (by decide)); clear lc4_0 lc4_1 lc4_2 lc4_3 lc4_4 lc4_5 lc4_6 lc4_7 lc4_8 lc4_9 lf4_0 lf4_1 lf4_2 lf4_3 lf4_4 lf4_5 lf4_6 lf4_7 lf4_8 lf4_9 lc5_0 lc5_1 lc5_2 lc5_3 lc5_4 lc5_5 lc5_6 lf5_0 lf5_1 lf5_2 lf5_3 lf5_4 lf5_5 lf5_6; replace BK_b := Aside0.mk (Ext.blk HEc BK_b.out NE_b_g.out); replace MP_m := Aside0.mk (IsMap.ext MP_m.out HEc NE_m_g.out); replace XT := Aside0.mk (XT.out.step HEc (F_g.out)); clear BK_g; have BK_g : Aside0 (w3.heap[g]? = some (.cells #[.int .i64 wait, .int .i64 again, .int .i64 pause, .int .i64 now, .int .i64 (wrap64 (tk + 1)), .slice A line.length c, vo, .int .i64 times, .int .i64 last, .map (some m)] 73 (0, 0))) := ⟨hput⟩; clear hput HEc; refine cl10_ BK_g.out ?_; intro lc6_0 lc6_1 lc6_2 lc6_3 lc6_4 lc6_5 lc6_6 lc6_7 lc6_8 lc6_9 lf6_0 lf6_1 lf6_2 lf6_3 lf6_4 lf6_5 lf6_6 lf6_7 lf6_8 lf6_9; refine cl7_ BK_b.out ?_; intro lc7_0 lc7_1 lc7_2 lc7_3 lc7_4 lc7_5 lc7_6 lf7_0 lf7_1 lf7_2 lf7_3 lf7_4 lf7_5 lf7_6) | (go_at_call 30; refine (clone_q (HV.out.at_ _ XT.out) HVL.out HVS.out).mono ?_; rintro e w4 ⟨A', k', rfl, hkc, hin, HBc⟩; have HKC := Aside0.mk hkc; clear hkc; replace OB_l := Aside0.mk (ks_mv OB_l.out (Ext.none_ HBc) (fun _ _ e => e)); replace KP := Aside0.mk (keeps_then KP.out HBc); replace HO := Aside0.mk (HO.out.below HBc); clear lc6_0 lc6_1 lc6_2 lc6_3 lc6_4 lc6_5 lc6_6 lc6_7 lc6_8 lc6_9 lf6_0 lf6_1 lf6_2 lf6_3 lf6_4 lf6_5 lf6_6 lf6_7 lf6_8 lf6_9 lc7_0 lc7_1 lc7_2 lc7_3 lc7_4 lc7_5 lc7_6 lf7_0 lf7_1 lf7_2 lf7_3 lf7_4 lf7_5 lf7_6; replace BK_g := Aside0.mk (Ext.blk (Ext.none_ HBc) BK_g.out (fun e => e)); replace BK_b := Aside0.mk (Ext.blk (Ext.none_ HBc) BK_b.out (fun e => e)); replace MP_m := Aside0.mk (IsMap.ext MP_m.out (Ext.none_ HBc) (fun e => e)); replace XT := Aside0.mk (XT.out.stepB HBc); have IR_n : Aside0 (IRow w4 (A') (q.l) (vs)) := ⟨hin⟩; clear hin HBc; refine cl10_ BK_g.out ?_; intro lc8_0 lc8_1 lc8_2 lc8_3 lc8_4 lc8_5 lc8_6 lc8_7 lc8_8 lc8_9 lf8_0 lf8_1 lf8_2 lf8_3 lf8_4 lf8_5 lf8_6 lf8_7 lf8_8 lf8_9; refine cl7_ BK_b.out ?_; intro lc9_0 lc9_1 lc9_2 lc9_3 lc9_4 lc9_5 lc9_6 lf9_0 lf9_1 lf9_2 lf9_3 lf9_4 lf9_5 lf9_6) | ((with_reducible refine gate_store (p := 40) rfl ?_); refine store_event (w1 := ?_) rfl (p := 40) rfl rfl ?hr ?_; rotate_left; (case hr => go_simp; rfl); intro w5 hw_; obtain ⟨hput, HEc⟩ := put1 (cs' := #[.int .i64 q.f, .int .i64 q.a, .int .i64 q.c, .slice A' q.l k', .int .i64 q.o, .int .i64 q.n, .int .i64 q.r]) hw_ BK_b.out rfl; clear hw_; replace OB_l := Aside0.mk (ks_mv OB_l.out HEc NE_l_b.out); replace IR_n := Aside0.mk (irow_set IR_n.out HEc BK_b.out (by decide)); replace KP := Aside0.mk (keeps_set KP.out HEc BK_b.out (.inr (.inr RG_b.out))); replace HO := Aside0.mk (HO.out.set HEc BK_b.out (by decide)); clear lc8_0 lc8_1 lc8_2 lc8_3 lc8_4 lc8_5 lc8_6 lc8_7 lc8_8 lc8_9 lf8_0 lf8_1 lf8_2 lf8_3 lf8_4 lf8_5 lf8_6 lf8_7 lf8_8 lf8_9 lc9_0 lc9_1 lc9_2 lc9_3 lc9_4 lc9_5 lc9_6 lf9_0 lf9_1 lf9_2 lf9_3 lf9_4 lf9_5 lf9_6; replace BK_g := Aside0.mk (Ext.blk HEc BK_g.out NE_g_b.out); replace MP_m := Aside0.mk (IsMap.ext MP_m.out HEc NE_m_b.out); replace XT := Aside0.mk (XT.out.step HEc (F_b.out)); clear BK_b; have BK_b : Aside0 (w5.heap[b]? = some (.cells #[.int .i64 q.f, .int .i64 q.a, .int .i64 q.c, .slice A' q.l k', .int .i64 q.o, .int .i64 q.n, .int .i64 q.r] 31 (0, 0))) := ⟨hput⟩; clear hput HEc; refine cl10_ BK_g.out ?_; intro lc10_0 lc10_1 lc10_2 lc10_3 lc10_4 lc10_5 lc10_6 lc10_7 lc10_8 lc10_9 lf10_0 lf10_1 lf10_2 lf10_3 lf10_4 lf10_5 lf10_6 lf10_7 lf10_8 lf10_9; refine cl7_ BK_b.out ?_; intro lc11_0 lc11_1 lc11_2 lc11_3 lc11_4 lc11_5 lc11_6 lf11_0 lf11_1 lf11_2 lf11_3 lf11_4 lf11_5 lf11_6))
 clear lc10_0 lc10_1 lc10_2 lc10_3 lc10_4 lc10_5 lc10_6 lc10_7 lc10_8 lc10_9 lf10_0 lf10_1 lf10_2 lf10_3 lf10_4 lf10_5 lf10_6 lf10_7 lf10_8 lf10_9 lc11_0 lc11_1 lc11_2 lc11_3 lc11_4 lc11_5 lc11_6 lf11_0 lf11_1 lf11_2 lf11_3 lf11_4 lf11_5 lf11_6
 refine start_ (n := 17) (S := fun W => W.cell? ⟨g, 4, none⟩ = some (.int .i64 (wrap64 (tk + 1))) ∧ W.cell? ⟨g, 5, none⟩ = some (.slice A line.length c) ∧ W.cell? ⟨b, 0, none⟩ = some (.int .i64 q.f) ∧ W.cell? ⟨b, 1, none⟩ = some (.int .i64 q.a) ∧ W.cell? ⟨b, 2, none⟩ = some (.int .i64 q.c) ∧ W.cell? ⟨b, 3, none⟩ = some (.slice A' q.l k') ∧ W.cell? ⟨b, 4, none⟩ = some (.int .i64 q.o) ∧ W.cell? ⟨b, 5, none⟩ = some (.int .i64 q.n) ∧ W.cell? ⟨b, 6, none⟩ = some (.int .i64 q.r)) (ds := [16]) (fl 17 0) (by kernel_rfl) rfl (by kernel_rfl) ?_ (fun hHeld => ?_)
 ·exact ⟨(blk_cell (bk_ BK_g) 4).trans rfl, (blk_cell (bk_ BK_g) 5).trans rfl, (blk_cell (bk_ BK_b) 0).trans rfl, (blk_cell (bk_ BK_b) 1).trans rfl, (blk_cell (bk_ BK_b) 2).trans rfl, (blk_cell (bk_ BK_b) 3).trans rfl, (blk_cell (bk_ BK_b) 4).trans rfl, (blk_cell (bk_ BK_b) 5).trans rfl, (blk_cell (bk_ BK_b) 6).trans rfl⟩
 refine pu_ 0 41 (fl 17 1) rfl rfl (by kernel_rfl) ?_
 refine pu_ 1 42 (fl 17 3) rfl rfl (by kernel_rfl) ?_
 refine pu_ 2 43 (fl 17 7) rfl rfl (by kernel_rfl) ?_
 refine pu_ 3 44 (fl 17 15) rfl rfl (by kernel_rfl) ?_
 refine tk_ 4 45 (fl 17 31) rfl rfl (by kernel_rfl) hHeld ?_
 refine pu_ 5 46 (fl 17 63) rfl rfl (by kernel_rfl) ?_
 refine pu_ 6 47 (fl 17 127) rfl rfl (by kernel_rfl) ?_
 refine pu_ 7 48 (fl 17 255) rfl rfl (by kernel_rfl) ?_
 refine tk_ 8 49 (fl 17 511) rfl rfl (by kernel_rfl) hHeld ?_
 refine pu_ 9 50 (fl 17 1023) rfl rfl (by kernel_rfl) ?_
 refine tk_ 10 51 (fl 17 2047) rfl rfl (by kernel_rfl) hHeld ?_
 refine pu_ 11 52 (fl 17 4095) rfl rfl (by kernel_rfl) ?_
 refine one_ (i := 12) (N := some 53) (fl 17 8191) rfl rfl (by kernel_rfl) (by decide) (fun K hK => ?_)
 refine value_ (v := ?vv) (w1 := ?ww) (by rfl) rfl ?hr ?kk
 case hr => (go_simp; refine And.intro ?_ ?_ <;> rfl)
 refine hK.out _ _ ?_ (fun hHeld => ?_)
 ·exact ⟨(blk_cell (bk_ BK_g) 4).trans rfl, (blk_cell (bk_ BK_g) 5).trans rfl, (blk_cell (bk_ BK_b) 0).trans rfl, (blk_cell (bk_ BK_b) 1).trans rfl, (blk_cell (bk_ BK_b) 2).trans rfl, (blk_cell (bk_ BK_b) 3).trans rfl, (blk_cell (bk_ BK_b) 4).trans rfl, (blk_cell (bk_ BK_b) 5).trans rfl, (blk_cell (bk_ BK_b) 6).trans rfl⟩
 clear hK K
 refine norm_ (a' := ?_) ?_ ?_
 rotate_left
 ·show Act.put _ (some 53) _ = _
  simp only [Act.put, List.setIfInBounds_toArray, List.set_cons_zero, List.set_cons_succ, i64_w, i32_w]
  rfl
 refine one_ (i := 13) (N := some 54) (fl 17 16383) rfl rfl (by kernel_rfl) (by decide) (fun K hK => ?_)
 refine ev_append_step ks (M := fun _ => False) (w0 := w5) (W := w5.drew) B (by rfl) (.tmp 45) (.tmp 53) 34 39 (.agg #[.int .i64 0, .int .i64 0, .int .i64 0, .int .i64 0, .int .i64 0, .slice none 0 0, .int .i64 0, .int .i64 0, .int .i64 0]) 88 rfl Try.underlying34 info39 rfl (by decide) (by decide) (Value.slice A line.length c) line ⟨wrap64 (tk + 1), unit, q.f, q.a, q.c, A', q.l, k', q.o, q.n, q.r⟩ [.int .i64 (wrap64 (tk + 1)), .int .i64 unit, .int .i64 q.f, .int .i64 q.a, .int .i64 q.c, .slice A' q.l k', .int .i64 q.o, .int .i64 q.n, .int .i64 q.r] rfl rfl ?aO ?aP ?aB ?aS ?aL ?_
 case aO => exact ks_mv OB_l.out (Ext.none_ (by repeat (first | exact Below.refl _ _ | apply pw_below_drewN | apply below_drew1))) (fun _ _ e => e)
 case aP => exact Ever.triv (p := _ = sc _) rfl
 case aB => exact (by repeat (first | exact Below.refl _ _ | apply pw_below_drewN | apply below_drew1))
 case aS => exact Nat.le_trans HBW.out XT.out.size
 case aL => (have := HLL.out; omega)
 intro v9 w9 HO9 HB9 hg9 hat9
 have HEc : Ext (Mv (fun _ => False) (Value.slice A line.length c)) w5 w9 := (Ext.of_below (by repeat (first | exact Below.refl _ _ | apply pw_below_drewN | apply below_drew1))).trans (Ext.of_grown hg9)
 have BKn_g : Aside0 (w9.heap[g]? = some (.cells #[.int .i64 wait, .int .i64 again, .int .i64 pause, .int .i64 now, .int .i64 (wrap64 (tk + 1)), .slice A line.length c, vo, .int .i64 times, .int .i64 last, .map (some m)] 73 (0, 0))) := ⟨Ext.blk HEc BK_g.out (fun e => e.elim (fun a => a) (fun a => NE_l_g.out g a.symm rfl))⟩
 have BKn_b : Aside0 (w9.heap[b]? = some (.cells #[.int .i64 q.f, .int .i64 q.a, .int .i64 q.c, .slice A' q.l k', .int .i64 q.o, .int .i64 q.n, .int .i64 q.r] 31 (0, 0))) := ⟨Ext.blk HEc BK_b.out (fun e => e.elim (fun a => a) (fun a => NE_l_b.out b a.symm rfl))⟩
 have MPn : Aside0 (IsMap w9 m f n) := ⟨MP_m.out.ext HEc (fun e => e.elim (fun a => a) (fun a => NE_l_m.out m a.symm rfl))⟩
 have HOn : Aside0 (IsOut B w9 v9 vo out) := ⟨IsOut.app HO.out HEc hat9⟩
 have XTn : Aside0 (Ext (Mm B g m) w w9) := ⟨XT.out.grow HEc (fun k e => e.elim (fun a => a.elim) (fun a => .inl (.inr (.inr (OB_l.out.base_le k a.symm)))))⟩
 have LNn : Aside0 (∀ k, v9.ownBlock = some k → k ≠ g) := ⟨ks_ne HO9 BKn_g.out (by decide)⟩
 have KPa := keeps_app OB_l.out HEc
 have KPn : Aside0 (Keeps w w9) := ⟨KP.out.trans KPa⟩
 have IRx : Aside0 (IRow w9 (A') (q.l) (vs)) := ⟨KPa.row IR_n.out⟩
 have HOw := Aside0.mk HO9
 clear HO9 HB9 hg9 hat9 HEc BK_g BK_b MP_m HO XT OB_l NE_l_g NE_l_m NE_l_b KP IR_n KPa
 have BK_g := BKn_g; have BK_b := BKn_b; have MP_m := MPn; have HO := HOn; have XT := XTn; have NE_l_g := LNn; have OB_l := HOw; have KP := KPn; have IR_n := IRx; clear BKn_g BKn_b MPn HOn XTn LNn HOw KPn IRx
 obtain ⟨A9, c9, e9⟩ := OB_l.out.slice
 rw [show (line ++ [(⟨wrap64 (tk + 1), unit, q.f, q.a, q.c, A', q.l, k', q.o, q.n, q.r⟩ : SV)]).length = line.length + 1 from by simp] at e9
 subst e9
 refine hK.out _ _ ?_ (fun hHeld => ?_)
 ·exact ⟨(blk_cell (bk_ BK_g) 4).trans rfl, (blk_cell (bk_ BK_g) 5).trans rfl, (blk_cell (bk_ BK_b) 0).trans rfl, (blk_cell (bk_ BK_b) 1).trans rfl, (blk_cell (bk_ BK_b) 2).trans rfl, (blk_cell (bk_ BK_b) 3).trans rfl, (blk_cell (bk_ BK_b) 4).trans rfl, (blk_cell (bk_ BK_b) 5).trans rfl, (blk_cell (bk_ BK_b) 6).trans rfl⟩
 clear hK K
 refine norm_ (a' := ?_) ?_ ?_
 rotate_left
 ·show Act.put _ (some 54) _ = _
  simp only [Act.put, List.setIfInBounds_toArray, List.set_cons_zero, List.set_cons_succ, i64_w, i32_w]
  rfl
 refine pu_ 14 55 (fl 17 32767) rfl rfl (by kernel_rfl) ?_
 refine pu_ 15 56 (fl 17 65535) rfl rfl (by kernel_rfl) ?_
 refine last_ (i := 16) (N := none) (fl 17 131071) rfl rfl (by kernel_rfl) (by decide) (fun K hK => ?_)
 have lz : w9.cell? ⟨g, 5, none⟩ = some (.slice A line.length c) := (blk_cell BK_g.out 5).trans rfl
 have lzf := blk_frozen BK_g.out 5
 refine skip_ (w1 := ?_) (by rfl) rfl ?_ ?_
 rotate_left
 ·go_simp
  rfl
 clear lz lzf
 generalize hw_ : World.setCell w9 ⟨g, 5, none⟩ _ = w10
 obtain ⟨hput, HEc⟩ := put1 (cs' := #[.int .i64 wait, .int .i64 again, .int .i64 pause, .int .i64 now, .int .i64 (wrap64 (tk + 1)), .slice A9 (line.length + 1) c9, vo, .int .i64 times, .int .i64 last, .map (some m)]) hw_.symm BK_g.out rfl
 clear hw_
 have HOn : Aside0 (IsOut B w10 (.slice A9 (line.length + 1) c9) vo out) := ⟨HO.out.set HEc BK_g.out (by decide)⟩
 have OBn := Aside0.mk (ks_mv OB_l.out HEc NE_l_g.out)
 have MPn : Aside0 (IsMap w10 m f n) := ⟨MP_m.out.ext HEc NE_m_g.out⟩
 have XTn : Aside0 (Ext (Mm B g m) w w10) := ⟨XT.out.step HEc F_g.out⟩
 have KPn : Aside0 (Keeps w w10) := ⟨keeps_set KP.out HEc BK_g.out (.inl rfl)⟩
 have IRx : Aside0 (IRow w10 (A') (q.l) (vs)) := ⟨irow_set IR_n.out HEc BK_g.out (by decide)⟩
 have BKn := Aside0.mk hput
 clear BK_g BK_b MP_m HO XT OB_l hput HEc KP IR_n
 have BK_g := BKn; have MP_m := MPn; have HO := HOn; have XT := XTn; have OB_l := OBn; have KP := KPn; have IR_n := IRx; clear BKn MPn HOn XTn OBn KPn IRx
 have ly4 : w10.cell? ⟨g, 4, none⟩ = some (.int .i64 (wrap64 (tk + 1))) := (blk_cell BK_g.out 4).trans rfl
 refine hK.out _ _ ?_
 clear hK K
 refine done_ (by kernel_rfl) ?_
 go_wp2
 go_ret2
 exact ⟨A', k', rfl, HKC.out, IR_n.out, ⟨⟨_, _, BK_g.out, OB_l.out, HO.out⟩, ⟨_, _, MP_m.out, HF.out⟩⟩, XT.out, KP.out⟩
end Go.Proofs.Ytlalpooiegganaa.MsgB
end

section
namespace Go.Proofs.Ytlalpooiegganaa.MsgC
open Go.RowKit Go.Proofs.YtlalpooiegganaaW.PrintWords Go.Proofs.YtlalpooiegganaaW.PrintLast Go.Proofs.YtlalpooiegganaaW.PrintMore Go.Proofs.Ytlalpooiegganaa.Core Go.Proofs.Ytlalpooiegganaa.Wk Go.Proofs.Ytlalpooiegganaa.PMasterWaits Go.Proofs.Ytlalpooiegganaa.Msg
set_option linter.unusedVariables false
set_option linter.unusedSimpArgs false
def Z39 : Value := .agg #[.int .i64 0, .int .i64 0, .int .i64 0, .int .i64 0, .int .i64 0, .slice none 0 0, .int .i64 0, .int .i64 0, .int .i64 0]
theorem own_room {W : World} {base g cap : Nat} {cs : Array Value} (hg : W.heap[g]? = some (.cells cs 39 (0, 0))) (hb : base ≤ g) (hc : cs.size = cap * 9) (hm : cap ≤ 9223372036854775807) : OwnE ks (fun _ => False) 39 base W (.slice (some ⟨g, 0, none⟩) 0 cap) [] :=
 ⟨[], ⟨by simp, .inr ⟨g, cap, cs, rfl, hb, hg, Nat.zero_le _, by simpa [maxLen] using hm, by simpa [ks] using hc, by simp⟩⟩, Reps.none _ _⟩
set_option maxHeartbeats 4000000 in
set_option maxRecDepth 100000 in
theorem grow_c (n : Nat) (w : World) (hn : n ≤ 1000) :
 Calls Try.prog 47 #[.slice none 0 0, .int .i64 n] w fun e w' => ∃ v, e = .returned v ∧ OwnE ks (fun _ => False) 39 w.heap.size w' v [] ∧ Below w.heap.size w w' := by
 obtain ⟨i0, hi, hz0, hz1, hz2⟩ := info_parts info39
 have h3 : wrap64 (n : Int) = n := by unfold wrap64; omega
 rcases Nat.eq_zero_or_pos n with rfl | hp
 ·go_enter Try.func47, Try.ntmps47
  go_wp2
  go_ret
  exact ⟨_, rfl, OwnE.nil _ _ _ _ _, Below.refl _ _⟩
 ·have hrz : ∀ ty, (Builtin.append_ #[34, 3] ty #[.slice none 0 0, .int .i64 (n : Int)]).run Try.prog w =
   .ok (.slice (some ⟨w.heap.size, 0, none⟩) n (grownCap w n 0 39)) (w.drew.alloc (.cells (#[] ++ Builtin.zeroCells Z39.cells n ++ Builtin.zeroCells Z39.cells (grownCap w n 0 39 - n)) 39)) := fun ty => by
   have h := Lib.run_append_grow_zeros (P := Try.prog) w 34 3 ty 39 i0 Z39 .i64 .i64 Try.underlying34 Try.underlying3 hi hz0 none 0 0 [] (run_firstCells_none (P := Try.prog) (w := w.drew) i0.size 0 0 0) n hp (by omega) (by omega) (by omega) (by rw [hz2]; omega) (by rw [hz2]; have := growslice_fits (need := 0 + n) (old := 0) (bytes := 88) (by omega) (by omega); omega)
   simpa using h
  have hGn : n ≤ grownCap w n 0 39 := grownCap_ge w _ _ _
  have hG63 := grownCap_le_maxLen w n 0 39 (by unfold maxLen; omega)
  obtain ⟨G, hG⟩ : ∃ G, G = grownCap w n 0 39 := ⟨_, rfl⟩
  rw [← hG] at hrz hGn hG63
  unfold maxLen at hG63
  clear hG
  have hpos : (n : Int) > 0 := by omega
  obtain ⟨zc, hzc⟩ : ∃ z, z = Z39.cells := ⟨_, rfl⟩
  have hz9 : zc.size = 9 := by rw [hzc]; rfl
  rw [← hzc] at hrz
  clear hzc
  go_enter Try.func47, Try.ntmps47
  go_wp2_with (at_builtin; refine Lib.wpList_append_run _ rfl _ _ _ _ rfl _ _ rfl rfl _ _ (hrz _) ?_)
  go_ret
  refine ⟨_, rfl, own_room (cs := Builtin.zeroCells zc n ++ Builtin.zeroCells zc (G - n)) ?_ (Nat.le_refl _) ?_ hG63, below_alloc (below_drew (Below.refl _ _)) _⟩
  ·exact heap_alloc_new w (.cells (Builtin.zeroCells zc n ++ Builtin.zeroCells zc (G - n)) 39 (0, 0))
  ·simp [size_zeroCells, hz9]; omega
theorem rowR {W : World} {A : Option Addr} {n : Nat} {xs : List (SV)} {M : Nat → Prop} (h : Kd.C ks W A n xs) : ReadsRow (fun x cs => cs.length = ks.sz ∧ (∀ u ∈ cs, u.oneCell' = true) ∧ Ever M W (fun W => ks.K W x cs)) ks.sz W A n xs :=
 ⟨h.1, h.2.1, fun hn => by
  obtain ⟨ad, rfl, hc⟩ := h.2.2 hn
  refine ⟨ad, rfl, fun j p hj => ?_⟩
  obtain ⟨cs, h1, h2, h3⟩ := hc j p hj
  exact ⟨cs, h1, ⟨h1, ks.K_one h2, Ever.triv (p := cs = sc p) h2⟩, h3⟩⟩
def Stage (b : Nat) (s i : Value) : Prop := (i = .int .i64 0 ∧ s = .int .i64 0) ∨ (i = .int .i64 1 ∧ s = .int .i64 0) ∨ (i = .int .i64 2 ∧ s = .int .i64 b)
def StageR (B : Nat) (xs : List (SV)) (v i : Value) (W : World) : Prop :=
 (i = .int .i64 0 ∧ OwnE ks (fun _ => False) 39 B W v []) ∨ (i = .int .i64 1 ∧ OwnE ks (fun _ => False) 39 B W v []) ∨ (i = .int .i64 2 ∧ OwnE ks (fun _ => False) 39 B W v xs)
set_option maxHeartbeats 8000000 in
set_option maxRecDepth 100000 in
theorem concat_c (A1 A2 : Option Addr) (c1 c2 : Nat) (xs : List (SV)) (gb cb : Nat) (w : World) (hgb : w.heap[gb]? = some (.cells #[.slice A1 0 c1, .slice A2 xs.length c2] 34 (0, 0)))
 (hV2 : Kd.C ks w A2 xs.length xs) (hl : xs.length ≤ 1000) :
 Calls Try.prog 33 #[.slice (some ⟨gb, 0, none⟩) 2 cb] w fun e w' => ∃ v, e = .returned v ∧ OwnE ks (fun _ => False) 39 w.heap.size w' v xs ∧ Below w.heap.size w w' := by
 have BK := Aside0.mk hgb
 have HV2 := Aside0.mk hV2
 have HLX := Aside0.mk hl
 clear hgb hV2
 have HB := Aside0.mk (Below.refl w.heap.size w)
 have hcz0 : w.cell? ⟨gb, 0, none⟩ = some (.slice A1 0 c1) := (blk_cell BK.out 0).trans rfl
 have hcz1 : w.cell? ⟨gb, 1, none⟩ = some (.slice A2 xs.length c2) := (blk_cell BK.out 1).trans rfl
 go_enter Try.func33, Try.ntmps33
 go_wp2
 go_loop [3, 11] (fun s i => Stage xs.length s i) (fun _ i => 2 - (intOf i).toNat)
 case atStart => exact .inl ⟨rfl, rfl⟩
 case round =>
  rcases hrel with ⟨rfl, rfl⟩ | ⟨rfl, rfl⟩ | ⟨rfl, rfl⟩
  ·go_wp2
   go_round
   case rel => exact .inr (.inl ⟨rfl, by simp⟩)
   case measure => simp [intOf]
  ·go_wp2
   go_round
   case rel => exact .inr (.inr ⟨rfl, by simp⟩)
   case measure => simp [intOf]
  ·clear hcz0 hcz1
   go_wp2_with (go_at_call 47; refine (grow_c xs.length _ (by omega)).mono ?_; rintro e w1 ⟨v, rfl, HR, HBc⟩; have HR1 := Aside0.mk HR; clear HR; have HB1 := Aside0.mk HBc; clear HBc)
   have hcz0 : w1.cell? ⟨gb, 0, none⟩ = some (.slice A1 0 c1) := (blk_cell (HB1.out.block _ (blk_lt BK.out) ▸ BK.out) 0).trans rfl
   have hcz1 : w1.cell? ⟨gb, 1, none⟩ = some (.slice A2 xs.length c2) := (blk_cell (HB1.out.block _ (blk_lt BK.out) ▸ BK.out) 1).trans rfl
   have hz1 := HB1.out.size
   go_loopw [6, 27] (fun v i wr => Aside0 (StageR w.heap.size xs v i wr) ∧ Aside0 (Below w.heap.size w wr)) (fun _ i _ => 2 - (intOf i).toNat)
   case atStart => exact ⟨⟨.inl ⟨rfl, HR1.out⟩⟩, HB1⟩
   case round =>
    obtain ⟨hst, HB2⟩ := hrel
    clear hcz0 hcz1 HR1
    have hcz0 : wr.cell? ⟨gb, 0, none⟩ = some (.slice A1 0 c1) := (blk_cell (HB2.out.block _ (blk_lt BK.out) ▸ BK.out) 0).trans rfl
    have hcz1 : wr.cell? ⟨gb, 1, none⟩ = some (.slice A2 xs.length c2) := (blk_cell (HB2.out.block _ (blk_lt BK.out) ▸ BK.out) 1).trans rfl
    obtain (⟨rfl, HO⟩ | ⟨rfl, HO⟩ | ⟨rfl, HO⟩) := hst.out
    ·have HO1 := Aside0.mk HO
     clear HO hst
     obtain ⟨A6, c6, e6⟩ := HO1.out.slice
     cases e6
     go_wp2_with ((with_reducible refine gate_builtin (b := .append) (xs := #[.tmp 31, .tmp 32]) rfl ?_); (refine ev_append_rows ks (M := fun _ => False) (w0 := w) w.heap.size rfl (.tmp 31) (.tmp 32) 34 39 Z39 88 rfl Try.underlying34 info39 rfl (by decide) (by decide) (.slice A6 0 c6) [] [] A1 0 c1 rfl rfl ?d1 ?d2 ?d3 ?d4 ?d5 ?_; (case d1 => exact HO1.out); (case d2 => exact ⟨rfl, by simp, fun h => absurd h (Nat.lt_irrefl 0)⟩); (case d3 => exact HB2.out); (case d4 => exact HB2.out.size); (case d5 => simp); intro v3 w3 hown hbel hgrow hat; have HO3 := Aside0.mk hown; have HB3 := Aside0.mk hbel; clear hown hbel hgrow hat))
     go_roundw
     case rel => exact ⟨⟨.inr (.inl ⟨rfl, HO3.out⟩)⟩, HB3⟩
     case measure => simp [intOf]
    ·have HO1 := Aside0.mk HO
     clear HO hst
     obtain ⟨A6, c6, e6⟩ := HO1.out.slice
     cases e6
     go_wp2_with ((with_reducible refine gate_builtin (b := .append) (xs := #[.tmp 31, .tmp 32]) rfl ?_); (refine ev_append_rows ks (M := fun _ => False) (w0 := w) w.heap.size rfl (.tmp 31) (.tmp 32) 34 39 Z39 88 rfl Try.underlying34 info39 rfl (by decide) (by decide) (.slice A6 0 c6) [] xs A2 xs.length c2 rfl rfl ?d1 ?d2 ?d3 ?d4 ?d5 ?_; (case d1 => exact HO1.out); (case d2 => exact rowR (Kd.C_below HV2.out HB2.out)); (case d3 => exact HB2.out); (case d4 => exact HB2.out.size); (case d5 => (have := HLX.out; simp only [List.length_nil]; omega)); intro v3 w3 hown hbel hgrow hat; rw [List.nil_append] at hown; have HO3 := Aside0.mk hown; have HB3 := Aside0.mk hbel; clear hown hbel hgrow hat))
     go_roundw
     case rel => exact ⟨⟨.inr (.inr ⟨rfl, HO3.out⟩)⟩, HB3⟩
     case measure => simp [intOf]
    ·have HO1 := Aside0.mk HO
     clear HO hst
     go_wp2
     go_ret
     exact ⟨_, rfl, HO1.out, HB2.out⟩
end Go.Proofs.Ytlalpooiegganaa.MsgC
end

section
namespace Go.Proofs.Ytlalpooiegganaa.MsgD
open Go.RowKit Go.Proofs.YtlalpooiegganaaW.PrintWords Go.Proofs.YtlalpooiegganaaW.PrintLast Go.Proofs.YtlalpooiegganaaW.PrintMore Go.Proofs.Ytlalpooiegganaa.Core Go.Proofs.Ytlalpooiegganaa.Wk Go.Proofs.Ytlalpooiegganaa.PMasterWaits Go.Proofs.Ytlalpooiegganaa.Msg Go.Proofs.Ytlalpooiegganaa.MsgB Go.Proofs.Ytlalpooiegganaa.MsgC
set_option linter.unusedVariables false
set_option linter.unusedSimpArgs false
section
variable {P : Program} {ops : Array Oper} {rest : List Oper} {o : Oper} {a : Act} {Q : Exit → Act → World → Prop} {Kc : Act → World → Prop} {W : World}
theorem look_step (hw : Region.wanted o (yielded ops a.tmps) = true) {N : Tmp} (hN : o.dst = some N) {t kt et : TypeId} {x y : Operand} {m n : Nat} {f : Int → Option Value} {z : Value} {k : Int} (ho : o.op = .lookup t x y false) (hm : IsMap W m f n) (ht : P.underlying t = some (.map kt et)) (hk : P.underlying kt = some (.int .i64)) (hz : ∀ w, (zeroValue et).run P w = .ok z w)
 (hx : a.eval x = .map (some m)) (hy : a.eval y = .int .i64 k) {v : Value} (hv : (f k).getD z = v) (h : Kc (a.put (some N) v) W) : if Region.wanted o (yielded ops a.tmps) = true then Oper.wp P o a W Kc Q else Kc (a.put (some N) undef) W := by
 subst hv
 refine value_ (w1 := W) hw hN ?_ h
 unfold execOp
 simp [ho, hx, hy, hm.look ht hk hz k, Result.andThen]
end
section
variable {B : Nat} {F : Nat → Prop} {w W W' : World} {v : Value} {l : List Int} {g m n : Nat} {f : Int → Option Value} {cs : Array Value} {T : TypeId}
def SentR (W : World) (v : Value) : Option (SV) → Prop
 | none => v = .slice none 0 0
 | some x => ∃ ga c, v = .slice (some ⟨ga, 0, none⟩) 1 c ∧ W.heap[ga]? = some (.cells (sc x).toArray 39 (0, 0))
def DoneR (W : World) (v : Value) : Option Int → Prop
 | none => v = .slice none 0 0
 | some t => ∃ gd c, v = .slice (some ⟨gd, 0, none⟩) 1 c ∧ ∀ i u, (dc t)[i]? = some u → W.cell? ⟨gd, i, none⟩ = some u
theorem sent_mk {x : SV} {ga c : Nat} (h : W.heap[ga]? = some (.cells (sc x).toArray 39 (0, 0))) : SentR W (.slice (some ⟨ga, 0, none⟩) 1 c) (some x) := ⟨ga, c, rfl, h⟩
theorem belowT {B : Nat} {w w1 w2 : World} (h : Below B w w1) (k : Below B w1 w2) : Below B w w2 := ⟨k.os.trans h.os, k.tape.trans h.tape, k.output.trans h.output, Nat.le_trans h.size k.size, fun i hi => (k.block i hi).trans (h.block i hi)⟩
theorem IsM.outS {s : MS} (h : IsM B W g m s) : g < W.heap.size := by obtain ⟨vl, vo, h1, _⟩ := h.out; exact blk_lt h1
theorem row0 {x : SV} {xs : List (SV)} (h : OwnE ks (fun _ => False) 39 B W v (x :: xs)) : ∃ gl c, v = .slice (some ⟨gl, 0, none⟩) (xs.length + 1) c ∧ xs.length + 1 ≤ c ∧ ∀ i u, (sc x)[i]? = some u → W.cell? ⟨gl, i, none⟩ = some u := by
 obtain ⟨i, h1, h2⟩ := h
 have hcap := h1
 obtain ⟨g, cap, e, _, _⟩ := h1.form (by simp)
 subst e
 refine ⟨g, cap, rfl, own_cap hcap, fun j u hu => ?_⟩
 have he : i.take 9 = sc x := by
  have h3 := h2.2 0 x rfl
  have h5 : ((i.drop (0 * ks.sz)).take ks.sz) = sc x := h3.now
  rw [Nat.zero_mul, List.drop_zero] at h5
  exact h5
 have hj : j < 9 := by have := (List.getElem?_eq_some_iff.1 hu).1; simpa [sc] using this
 have := h1.cells rfl j u (by rw [← he, List.getElem?_take, if_pos hj] at hu; exact hu)
 rw [show (⟨g, 0, none⟩ : Addr).add j = ⟨g, j, none⟩ from by simp [Addr.add] <;> omega] at this
 exact this
theorem rowC {x : SV} {xs : List (SV)} {gl c : Nat} (h : OwnE ks (fun _ => False) 39 B W (.slice (some ⟨gl, 0, none⟩) (xs.length + 1) c) (x :: xs)) (hc : xs.length + 1 ≤ c) : Kd.C ks W (if c = 1 then some ⟨gl, 0, none⟩ else (some ⟨gl, 0, none⟩ : Option Addr).map (·.add (1 * 9))) xs.length xs := by
 obtain ⟨A, c', e, hcc, hv⟩ := h.view (fun _ _ e => e)
 have e1 : A = some ⟨gl, 0, none⟩ ∧ c' = c := by injection e with e1 e2 e3; exact ⟨e1.symm, e3.symm⟩
 obtain ⟨rfl, rfl⟩ := e1
 exact Kd.C_drop (m := 1) hv.now (by simp) (by simpa using hc)
end
end Go.Proofs.Ytlalpooiegganaa.MsgD
end

section
namespace Go.Proofs.Ytlalpooiegganaa.MsgE
open Go.RowKit Go.Proofs.YtlalpooiegganaaW.PrintWords Go.Proofs.YtlalpooiegganaaW.PrintLast Go.Proofs.YtlalpooiegganaaW.PrintMore Go.Proofs.Ytlalpooiegganaa.Core Go.Proofs.Ytlalpooiegganaa.Wk Go.Proofs.Ytlalpooiegganaa.PMasterWaits Go.Proofs.Ytlalpooiegganaa.Msg Go.Proofs.Ytlalpooiegganaa.MsgB Go.Proofs.Ytlalpooiegganaa.MsgC Go.Proofs.Ytlalpooiegganaa.MsgD
set_option linter.unusedVariables false
set_option linter.unusedSimpArgs false
def StepS (B : Nat) (w w' : World) (g m : Nat) (x : SV) (vs : List Int) (d : Option Int) (s : MS) (va vd : Value) : Prop := ∃ A' k', SentR w' va (some ⟨x.t, x.u, x.f, x.a, x.c, A', x.l, k', x.o, x.n, x.r⟩) ∧ DoneR w' vd d ∧ x.l ≤ k' ∧ IRow w' A' x.l vs ∧ IsM B w' g m s ∧ Ext (Gm g m) w w' ∧ Keeps w w'
theorem row0v {W : World} {B gl n c : Nat} {x : SV} {xs : List (SV)} (h : OwnE ks (fun _ => False) 39 B W (.slice (some ⟨gl, 0, none⟩) n c) (x :: xs)) : ∀ i u, (sc x)[i]? = some u → W.cell? ⟨gl, i, none⟩ = some u := by
 obtain ⟨gl', c', e, _, h2⟩ := row0 h
 injection e with e1 _ _
 injection e1 with e1
 injection e1 with e1 _ _
 rw [e1]
 exact h2
theorem ks_low {W : World} {B b : Nat} {v : Value} {l : List (SV)} (h : OwnE ks (fun _ => False) 39 b W v l) (hB : B ≤ b) : OwnE ks (fun _ => False) 39 B W v l := by
 obtain ⟨i, h1, h2⟩ := h
 exact ⟨i, own_lw h1 hB, h2⟩
theorem slice_to (gl c n : Nat) (hc : n + 1 ≤ c) : ∀ W : World, (Instr.slice 34 (.slice (some ⟨gl, 0, none⟩) (n + 1) c) none (some (.int .i64 0)) none).run Try.prog W = .ok (.slice (some ⟨gl, 0, none⟩) 0 c) W := by
 obtain ⟨i0, hi, hz0, hz1, hz2⟩ := info_parts info39
 intro W
 have h := cut_to (P := Try.prog) 34 39 .i64 Try.underlying34 hi (some ⟨gl, 0, none⟩) (n + 1) c 0 (by omega) (by omega) hc W
 simpa using h
theorem slice_from (gl c n : Nat) : ∀ W : World, (Instr.slice 34 (.slice (some ⟨gl, 0, none⟩) (n + 1) c) (some (.int .i64 1)) none none).run Try.prog W = .ok (.slice (if c = 1 then some ⟨gl, 0, none⟩ else (some ⟨gl, 0, none⟩ : Option Addr).map (·.add (1 * 9))) n (c - 1)) W := by
 obtain ⟨i0, hi, hz0, hz1, hz2⟩ := info_parts info39
 intro W
 have h := cut_from (P := Try.prog) 34 39 .i64 Try.underlying34 hi 9 hz1 (some ⟨gl, 0, none⟩) (n + 1) c 1 (by omega) (by omega) W
 rw [h]
 rfl
set_option maxHeartbeats 4000000 in
set_option maxRecDepth 100000 in
theorem step_send {B : Nat} {w : World} {g m : Nat} {wait again pause now tk times last : Int} {rest : Int → Int} {y : SV} {xs : List (SV)} (h : IsM B w g m ⟨wait, again, pause, now, tk, (y :: xs), none, times, last, rest⟩) (hB : B ≤ w.heap.size) (t : Int) (h0 : 0 ≤ t) (h1 : now ≤ t)  (hs : rest y.u ≤ t) (hl : xs.length ≤ 1000) {vs : List Int} (hV : IRow w y.A y.l vs) (hvl : y.l ≤ 100000) : Calls Try.prog 12 #[.pointer (some ⟨g, 0, none⟩), .int .i64 t] w fun e w' => ∃ va vd, e = .returned (.tuple #[va, vd, .int .i64 0]) ∧ StepS B w w' g m y vs none ⟨wait, again, pause, t, tk, xs, some y, wrap64 (0 + 1), t, rest⟩ va vd := by
 have H := Aside0.mk h; have HB := Aside0.mk hB; have T0 := Aside0.mk h0; have T1 := Aside0.mk h1
 have HV := Aside0.mk hV; have HVL := Aside0.mk hvl; clear hV hvl
 obtain ⟨rv, hrv⟩ : ∃ r : Int, r = rest y.u := ⟨_, rfl⟩
 rw [← hrv] at hs
 have HRV := Aside0.mk hrv
 clear hrv
 have q7 : decide (t < rv) = false := decide_eq_false (Int.not_lt.2 hs)
 have HLX := Aside0.mk hl
 clear h hB h0 h1 hs hl
 have hu39 := Try.underlying39; have hu48 := Try.underlying48
 go_enter Try.func12, Try.ntmps12
 go_wp2_with (fail)
 go_step3
 go_upto_region 5 with (go_at_call 31; refine (goon_f H.out HB.out t T0.out T1.out).mono ?_; rintro e w1 ⟨rfl, HI, HXg, HKg⟩; have HI := Aside0.mk HI; have HBB : Aside0 (Ext (Gm g m) w w1) := ⟨extg HXg⟩; have HKG := Aside0.mk HKg; clear HXg HKg)
 clear H
 have HBW : Aside0 (B ≤ w1.heap.size) := ⟨Nat.le_trans HB.out HBB.out.size⟩
 obtain ⟨⟨vl, vo, hb, hl, ho⟩, ⟨f, n, hm, hf⟩⟩ := HI.out
 clear HI
 obtain rfl : vo = .pointer none := ho
 have BK_g : Aside0 (w1.heap[g]? = some (.cells #[.int .i64 wait, .int .i64 again, .int .i64 pause, .int .i64 t, .int .i64 tk, vl, .pointer none, .int .i64 times, .int .i64 last, .map (some m)] 73 (0, 0))) := ⟨hb⟩
 have OB_l : Aside0 (OwnE ks (fun _ => False) 39 B w1 vl (y :: xs)) := ⟨hl⟩
 have MP_m := Aside0.mk hm; have HF := Aside0.mk hf
 have NE_l_g : Aside0 (∀ k, (vl).ownBlock = some k → k ≠ g) := ⟨ks_ne hl hb (by decide)⟩; have NE_l_m : Aside0 (∀ k, (vl).ownBlock = some k → k ≠ m) := ⟨ks_nm hl hm⟩; have NE_g_m : Aside0 (g ≠ m) := ⟨cell_nm hb hm⟩; have NE_m_g : Aside0 (m ≠ g) := ⟨fun e => NE_g_m.out e.symm⟩; have F_g : Aside0 (∀ k, k = g → Gm g m k ∨ w1.heap.size ≤ k) := ⟨fun k e => .inl (.inl e)⟩; have F_m : Aside0 (∀ k, k = m → Gm g m k ∨ w1.heap.size ≤ k) := ⟨fun k e => .inl (.inr e)⟩
 clear hb hl hm hf
 obtain ⟨gl, c, e, hcap, _⟩ := row0 OB_l.out
 obtain rfl : vl = (Value.slice (some ⟨gl, 0, none⟩) (xs.length + 1) c) := e
 have HCAP := Aside0.mk hcap; clear hcap
 have XT : Aside0 (Ext (Gm g m) w1 w1) := ⟨Ext.refl _ _⟩
 refine cl10_ BK_g.out ?_; intro lc1_0 lc1_1 lc1_2 lc1_3 lc1_4 lc1_5 lc1_6 lc1_7 lc1_8 lc1_9 lf1_0 lf1_1 lf1_2 lf1_3 lf1_4 lf1_5 lf1_6 lf1_7 lf1_8 lf1_9
 have KP : Aside0 (Keeps w1 w1) := ⟨fun _ _ _ h _ _ => h⟩
 have HV1 : Aside0 (IRow w1 y.A y.l vs) := ⟨HKG.out.row HV.out⟩
 clear lc1_0 lc1_1 lc1_2 lc1_3 lc1_4 lc1_5 lc1_6 lc1_7 lc1_8 lc1_9 lf1_0 lf1_1 lf1_2 lf1_3 lf1_4 lf1_5 lf1_6 lf1_7 lf1_8 lf1_9
 refine start_ (n := 18) (S := fun W => W.cell? ⟨g, 6, none⟩ = some (.pointer none) ∧ W.cell? ⟨g, 8, none⟩ = some (.int .i64 last) ∧ W.cell? ⟨g, 0, none⟩ = some (.int .i64 wait)) (ds := []) (fl 18 0) (by kernel_rfl) rfl (by kernel_rfl) ?_ (fun hHeld => ?_)
 ·exact ⟨(blk_cell (bk_ BK_g) 6).trans rfl, (blk_cell (bk_ BK_g) 8).trans rfl, (blk_cell (bk_ BK_g) 0).trans rfl⟩
 refine pu_ 0 17 (fl 18 1) rfl rfl (by kernel_rfl) ?_
 refine pu_ 1 18 (fl 18 3) rfl rfl (by kernel_rfl) ?_
 refine pu_ 2 19 (fl 18 7) rfl rfl (by kernel_rfl) ?_
 refine tk_ 3 20 (fl 18 15) rfl rfl (by kernel_rfl) hHeld ?_
 refine pu_ 4 21 (fl 18 31) rfl rfl (by kernel_rfl) ?_
 refine pu_ 5 22 (fl 18 63) rfl rfl (by kernel_rfl) ?_
 refine pure_ (i := 6) (N := some 23) (v := undef) (a' := ?_) (fl 18 127) rfl rfl (by kernel_rfl) (fun _ _ _ h => h) (Or.inr ⟨by rfl, rfl⟩) ?_ ?_
 rotate_left
 ·simp only [Act.put, List.setIfInBounds_toArray, List.set_cons_zero, List.set_cons_succ, i64_w, i32_w]
  rfl
 refine pure_ (i := 7) (N := some 24) (v := undef) (a' := ?_) (fl 18 255) rfl rfl (by kernel_rfl) (fun _ _ _ h => h) (Or.inr ⟨by rfl, rfl⟩) ?_ ?_
 rotate_left
 ·simp only [Act.put, List.setIfInBounds_toArray, List.set_cons_zero, List.set_cons_succ, i64_w, i32_w]
  rfl
 refine pure_ (i := 8) (N := some 25) (v := undef) (a' := ?_) (fl 18 511) rfl rfl (by kernel_rfl) (fun _ _ _ h => h) (Or.inr ⟨by rfl, rfl⟩) ?_ ?_
 rotate_left
 ·simp only [Act.put, List.setIfInBounds_toArray, List.set_cons_zero, List.set_cons_succ, i64_w, i32_w]
  rfl
 refine pure_ (i := 9) (N := some 26) (v := undef) (a' := ?_) (fl 18 1023) rfl rfl (by kernel_rfl) (fun _ _ _ h => h) (Or.inr ⟨by rfl, rfl⟩) ?_ ?_
 rotate_left
 ·simp only [Act.put, List.setIfInBounds_toArray, List.set_cons_zero, List.set_cons_succ, i64_w, i32_w]
  rfl
 refine pure_ (i := 10) (N := some 27) (v := undef) (a' := ?_) (fl 18 2047) rfl rfl (by kernel_rfl) (fun _ _ _ h => h) (Or.inr ⟨by rfl, rfl⟩) ?_ ?_
 rotate_left
 ·simp only [Act.put, List.setIfInBounds_toArray, List.set_cons_zero, List.set_cons_succ, i64_w, i32_w]
  rfl
 refine pure_ (i := 11) (N := some 28) (v := undef) (a' := ?_) (fl 18 4095) rfl rfl (by kernel_rfl) (fun _ _ _ h => h) (Or.inr ⟨by rfl, rfl⟩) ?_ ?_
 rotate_left
 ·simp only [Act.put, List.setIfInBounds_toArray, List.set_cons_zero, List.set_cons_succ, i64_w, i32_w]
  rfl
 refine pure_ (i := 12) (N := some 29) (v := undef) (a' := ?_) (fl 18 8191) rfl rfl (by kernel_rfl) (fun _ _ _ h => h) (Or.inr ⟨by rfl, rfl⟩) ?_ ?_
 rotate_left
 ·simp only [Act.put, List.setIfInBounds_toArray, List.set_cons_zero, List.set_cons_succ, i64_w, i32_w]
  rfl
 refine pure_ (i := 13) (N := some 30) (v := undef) (a' := ?_) (fl 18 16383) rfl rfl (by kernel_rfl) (fun _ _ _ h => h) (Or.inr ⟨by rfl, rfl⟩) ?_ ?_
 rotate_left
 ·simp only [Act.put, List.setIfInBounds_toArray, List.set_cons_zero, List.set_cons_succ, i64_w, i32_w]
  rfl
 refine pure_ (i := 14) (N := some 31) (v := undef) (a' := ?_) (fl 18 32767) rfl rfl (by kernel_rfl) (fun _ _ _ h => h) (Or.inr ⟨by rfl, rfl⟩) ?_ ?_
 rotate_left
 ·simp only [Act.put, List.setIfInBounds_toArray, List.set_cons_zero, List.set_cons_succ, i64_w, i32_w]
  rfl
 refine pure_ (i := 15) (N := some 32) (v := undef) (a' := ?_) (fl 18 65535) rfl rfl (by kernel_rfl) (fun _ _ _ h => h) (Or.inr ⟨by rfl, rfl⟩) ?_ ?_
 rotate_left
 ·simp only [Act.put, List.setIfInBounds_toArray, List.set_cons_zero, List.set_cons_succ, i64_w, i32_w]
  rfl
 refine pure_ (i := 16) (N := some 33) (v := undef) (a' := ?_) (fl 18 131071) rfl rfl (by kernel_rfl) (fun _ _ _ h => h) (Or.inr ⟨by rfl, rfl⟩) ?_ ?_
 rotate_left
 ·simp only [Act.put, List.setIfInBounds_toArray, List.set_cons_zero, List.set_cons_succ, i64_w, i32_w]
  rfl
 refine pu_ 17 34 (fl 18 262143) rfl rfl (by kernel_rfl) ?_
 refine done_ (by kernel_rfl) ?_
 generalize hwd : World.drew w1 = w2
 have HBc : Below w1.heap.size w1 w2 := (by rw [← hwd]; exact below_drew (Below.refl _ _))
 clear hwd
 replace OB_l := Aside0.mk (ks_mv OB_l.out (Ext.none_ HBc) (fun _ _ e => e))
 replace KP := Aside0.mk (keeps_then KP.out HBc)
 replace BK_g := Aside0.mk (Ext.blk (Ext.none_ HBc) BK_g.out (fun e => e))
 replace MP_m := Aside0.mk (IsMap.ext MP_m.out (Ext.none_ HBc) (fun e => e))
 replace XT := Aside0.mk (XT.out.stepB HBc)
 clear HBc
 refine cl10_ BK_g.out ?_; intro lc2_0 lc2_1 lc2_2 lc2_3 lc2_4 lc2_5 lc2_6 lc2_7 lc2_8 lc2_9 lf2_0 lf2_1 lf2_2 lf2_3 lf2_4 lf2_5 lf2_6 lf2_7 lf2_8 lf2_9
 go_wp2_with (fail)
 go_step3
 clear lc2_0 lc2_1 lc2_2 lc2_3 lc2_4 lc2_5 lc2_6 lc2_7 lc2_8 lc2_9 lf2_0 lf2_1 lf2_2 lf2_3 lf2_4 lf2_5 lf2_6 lf2_7 lf2_8 lf2_9
 refine cl10_ BK_g.out ?_; intro lc3_0 lc3_1 lc3_2 lc3_3 lc3_4 lc3_5 lc3_6 lc3_7 lc3_8 lc3_9 lf3_0 lf3_1 lf3_2 lf3_3 lf3_4 lf3_5 lf3_6 lf3_7 lf3_8 lf3_9
 go_wp2_with (fail)
 go_loopw [89] (fun v wr => v = .int .i64 0 ∧ Aside0 (wr.heap[g]? = some (.cells #[.int .i64 wait, .int .i64 again, .int .i64 pause, .int .i64 t, .int .i64 tk, .slice (some ⟨gl, 0, none⟩) (xs.length + 1) c, .pointer none, .int .i64 times, .int .i64 last, .map (some m)] 73 (0, 0))) ∧ Aside0 (IsMap wr m (f) (n)) ∧ Aside0 (Ext (Gm g m) w1 wr) ∧ Aside0 (OwnE ks (fun _ => False) 39 B wr (Value.slice (some ⟨gl, 0, none⟩) (xs.length + 1) c) (y :: xs)) ∧ Aside0 (Keeps w1 wr)) (fun _ _ => 0)
 case atStart => exact ⟨rfl, BK_g, MP_m, XT, OB_l, KP⟩
 case round =>
  clear BK_g MP_m XT OB_l KP lc3_0 lc3_1 lc3_2 lc3_3 lc3_4 lc3_5 lc3_6 lc3_7 lc3_8 lc3_9 lf3_0 lf3_1 lf3_2 lf3_3 lf3_4 lf3_5 lf3_6 lf3_7 lf3_8 lf3_9
  obtain ⟨hv, BK_g, MP_m, XT, OB_l, KP⟩ := hrel
  subst hv
  refine cl10_ BK_g.out ?_; intro lc4_0 lc4_1 lc4_2 lc4_3 lc4_4 lc4_5 lc4_6 lc4_7 lc4_8 lc4_9 lf4_0 lf4_1 lf4_2 lf4_3 lf4_4 lf4_5 lf4_6 lf4_7 lf4_8 lf4_9
  have lr0 : wr.cell? ⟨gl, 0, none⟩ = some (.int .i64 y.t) := row0v OB_l.out 0 _ rfl
  have lr1 : wr.cell? ⟨gl, 1, none⟩ = some (.int .i64 y.u) := row0v OB_l.out 1 _ rfl
  have lr2 : wr.cell? ⟨gl, 2, none⟩ = some (.int .i64 y.f) := row0v OB_l.out 2 _ rfl
  have lr3 : wr.cell? ⟨gl, 3, none⟩ = some (.int .i64 y.a) := row0v OB_l.out 3 _ rfl
  have lr4 : wr.cell? ⟨gl, 4, none⟩ = some (.int .i64 y.c) := row0v OB_l.out 4 _ rfl
  have lr5 : wr.cell? ⟨gl, 5, none⟩ = some (.slice y.A y.l y.k) := row0v OB_l.out 5 _ rfl
  have lr6 : wr.cell? ⟨gl, 6, none⟩ = some (.int .i64 y.o) := row0v OB_l.out 6 _ rfl
  have lr7 : wr.cell? ⟨gl, 7, none⟩ = some (.int .i64 y.n) := row0v OB_l.out 7 _ rfl
  have lr8 : wr.cell? ⟨gl, 8, none⟩ = some (.int .i64 y.r) := row0v OB_l.out 8 _ rfl
  go_upto_region 16 with (first | ((with_reducible refine gate_dst (N := 10) rfl ?_); refine bx_ (N := 10) (cs := #[.int .i64 0, .int .i64 0, .int .i64 0, .int .i64 0, .int .i64 0, .slice none 0 0, .int .i64 0, .int .i64 0, .int .i64 0]) (t := 39) ?_; intro s hg w3 hbox HBc; have NE_l_s : Aside0 (∀ k, ((Value.slice (some ⟨gl, 0, none⟩) (xs.length + 1) c)).ownBlock = some k → k ≠ s) := ⟨fun k hk e => by have := OwnE.lt OB_l.out k hk; omega⟩; have NE_g_s : Aside0 (g ≠ s) := ⟨ne_born (blk_lt BK_g.out) hg⟩; have NE_s_g : Aside0 (s ≠ g) := ⟨fun e => NE_g_s.out e.symm⟩; have NE_m_s : Aside0 (m ≠ s) := ⟨ne_born (IsMap.lt MP_m.out) hg⟩; have NE_s_m : Aside0 (s ≠ m) := ⟨fun e => NE_m_s.out e.symm⟩; have F_s : Aside0 (∀ k, k = s → (Gm g m) k ∨ w1.heap.size ≤ k) := ⟨fnew hg XT.out.size⟩; have RG_s : Aside0 (w1.heap.size ≤ s) := ⟨Nat.le_trans XT.out.size (Nat.le_of_eq hg.symm)⟩; have BG_s : Aside0 (B ≤ s) := ⟨Nat.le_trans HBW.out RG_s.out⟩; clear hg; replace OB_l := Aside0.mk (ks_mv OB_l.out (Ext.none_ HBc) (fun _ _ e => e)); replace KP := Aside0.mk (keeps_then KP.out HBc); clear lc4_0 lc4_1 lc4_2 lc4_3 lc4_4 lc4_5 lc4_6 lc4_7 lc4_8 lc4_9 lf4_0 lf4_1 lf4_2 lf4_3 lf4_4 lf4_5 lf4_6 lf4_7 lf4_8 lf4_9; replace BK_g := Aside0.mk (Ext.blk (Ext.none_ HBc) BK_g.out (fun e => e)); replace MP_m := Aside0.mk (IsMap.ext MP_m.out (Ext.none_ HBc) (fun e => e)); replace XT := Aside0.mk (XT.out.stepB HBc); have BK_s : Aside0 (w3.heap[s]? = some (.cells #[.int .i64 0, .int .i64 0, .int .i64 0, .int .i64 0, .int .i64 0, .slice none 0 0, .int .i64 0, .int .i64 0, .int .i64 0] 39 (0, 0))) := ⟨hbox⟩; clear hbox HBc; refine cl10_ BK_g.out ?_; intro lc5_0 lc5_1 lc5_2 lc5_3 lc5_4 lc5_5 lc5_6 lc5_7 lc5_8 lc5_9 lf5_0 lf5_1 lf5_2 lf5_3 lf5_4 lf5_5 lf5_6 lf5_7 lf5_8 lf5_9; refine cl9_ BK_s.out ?_; intro lc6_0 lc6_1 lc6_2 lc6_3 lc6_4 lc6_5 lc6_6 lc6_7 lc6_8 lf6_0 lf6_1 lf6_2 lf6_3 lf6_4 lf6_5 lf6_6 lf6_7 lf6_8) | ((with_reducible refine gate_store (p := 10) rfl ?_); refine store_event (w1 := ?_) rfl (p := 10) rfl rfl ?hr ?_; rotate_left; (case hr => go_simp; rfl); intro w4 hw_; have hput : w4.heap[s]? = some (.cells #[.int .i64 y.t, .int .i64 y.u, .int .i64 y.f, .int .i64 y.a, .int .i64 y.c, .slice y.A y.l y.k, .int .i64 y.o, .int .i64 y.n, .int .i64 y.r] 39 (0, 0)) := (by rw [hw_]; refine blk_put (cs := #[.int .i64 y.t, .int .i64 y.u, .int .i64 y.f, .int .i64 y.a, .int .i64 y.c, .slice y.A y.l y.k, .int .i64 y.o, .int .i64 y.n, .int .i64 0]) ?_ 8 _ rfl; refine blk_put (cs := #[.int .i64 y.t, .int .i64 y.u, .int .i64 y.f, .int .i64 y.a, .int .i64 y.c, .slice y.A y.l y.k, .int .i64 y.o, .int .i64 0, .int .i64 0]) ?_ 7 _ rfl; refine blk_put (cs := #[.int .i64 y.t, .int .i64 y.u, .int .i64 y.f, .int .i64 y.a, .int .i64 y.c, .slice y.A y.l y.k, .int .i64 0, .int .i64 0, .int .i64 0]) ?_ 6 _ rfl; refine blk_put (cs := #[.int .i64 y.t, .int .i64 y.u, .int .i64 y.f, .int .i64 y.a, .int .i64 y.c, .slice none 0 0, .int .i64 0, .int .i64 0, .int .i64 0]) ?_ 5 _ rfl; refine blk_put (cs := #[.int .i64 y.t, .int .i64 y.u, .int .i64 y.f, .int .i64 y.a, .int .i64 0, .slice none 0 0, .int .i64 0, .int .i64 0, .int .i64 0]) ?_ 4 _ rfl; refine blk_put (cs := #[.int .i64 y.t, .int .i64 y.u, .int .i64 y.f, .int .i64 0, .int .i64 0, .slice none 0 0, .int .i64 0, .int .i64 0, .int .i64 0]) ?_ 3 _ rfl; refine blk_put (cs := #[.int .i64 y.t, .int .i64 y.u, .int .i64 0, .int .i64 0, .int .i64 0, .slice none 0 0, .int .i64 0, .int .i64 0, .int .i64 0]) ?_ 2 _ rfl; refine blk_put (cs := #[.int .i64 y.t, .int .i64 0, .int .i64 0, .int .i64 0, .int .i64 0, .slice none 0 0, .int .i64 0, .int .i64 0, .int .i64 0]) ?_ 1 _ rfl; refine blk_put (cs := #[.int .i64 0, .int .i64 0, .int .i64 0, .int .i64 0, .int .i64 0, .slice none 0 0, .int .i64 0, .int .i64 0, .int .i64 0]) ?_ 0 _ rfl; exact BK_s.out); have HEc : Ext (fun k => k = s) w3 w4 := (by rw [hw_]; exact ((((((((((Ext.refl _ _).setg _).setg _).setg _).setg _).setg _).setg _).setg _).setg _).setg _)); clear hw_; replace OB_l := Aside0.mk (ks_mv OB_l.out HEc NE_l_s.out); replace KP := Aside0.mk (keeps_set KP.out HEc BK_s.out (.inr (.inl rfl))); clear lc5_0 lc5_1 lc5_2 lc5_3 lc5_4 lc5_5 lc5_6 lc5_7 lc5_8 lc5_9 lf5_0 lf5_1 lf5_2 lf5_3 lf5_4 lf5_5 lf5_6 lf5_7 lf5_8 lf5_9 lc6_0 lc6_1 lc6_2 lc6_3 lc6_4 lc6_5 lc6_6 lc6_7 lc6_8 lf6_0 lf6_1 lf6_2 lf6_3 lf6_4 lf6_5 lf6_6 lf6_7 lf6_8; replace BK_g := Aside0.mk (Ext.blk HEc BK_g.out NE_g_s.out); replace MP_m := Aside0.mk (IsMap.ext MP_m.out HEc NE_m_s.out); replace XT := Aside0.mk (XT.out.step HEc (F_s.out)); clear BK_s; have BK_s : Aside0 (w4.heap[s]? = some (.cells #[.int .i64 y.t, .int .i64 y.u, .int .i64 y.f, .int .i64 y.a, .int .i64 y.c, .slice y.A y.l y.k, .int .i64 y.o, .int .i64 y.n, .int .i64 y.r] 39 (0, 0))) := ⟨hput⟩; clear hput HEc; refine cl10_ BK_g.out ?_; intro lc7_0 lc7_1 lc7_2 lc7_3 lc7_4 lc7_5 lc7_6 lc7_7 lc7_8 lc7_9 lf7_0 lf7_1 lf7_2 lf7_3 lf7_4 lf7_5 lf7_6 lf7_7 lf7_8 lf7_9; refine cl9_ BK_s.out ?_; intro lc8_0 lc8_1 lc8_2 lc8_3 lc8_4 lc8_5 lc8_6 lc8_7 lc8_8 lf8_0 lf8_1 lf8_2 lf8_3 lf8_4 lf8_5 lf8_6 lf8_7 lf8_8))
  clear lr0 lr1 lr2 lr3 lr4 lr5 lr6 lr7 lr8
  clear lc7_0 lc7_1 lc7_2 lc7_3 lc7_4 lc7_5 lc7_6 lc7_7 lc7_8 lc7_9 lf7_0 lf7_1 lf7_2 lf7_3 lf7_4 lf7_5 lf7_6 lf7_7 lf7_8 lf7_9 lc8_0 lc8_1 lc8_2 lc8_3 lc8_4 lc8_5 lc8_6 lc8_7 lc8_8 lf8_0 lf8_1 lf8_2 lf8_3 lf8_4 lf8_5 lf8_6 lf8_7 lf8_8
  refine start_ (n := 9) (S := fun W => W.cell? ⟨g, 9, none⟩ = some (.map (some m)) ∧ W.cell? ⟨s, 1, none⟩ = some (.int .i64 y.u)) (ds := []) (fl 9 0) (by kernel_rfl) rfl (by kernel_rfl) ?_ (fun hHeld => ?_)
  ·exact ⟨(blk_cell (bk_ BK_g) 9).trans rfl, (blk_cell (bk_ BK_s) 1).trans rfl⟩
  refine pu_ 0 94 (fl 9 1) rfl rfl (by kernel_rfl) ?_
  refine pu_ 1 95 (fl 9 3) rfl rfl (by kernel_rfl) ?_
  refine pu_ 2 96 (fl 9 7) rfl rfl (by kernel_rfl) ?_
  refine tk_ 3 97 (fl 9 15) rfl rfl (by kernel_rfl) hHeld ?_
  refine pu_ 4 98 (fl 9 31) rfl rfl (by kernel_rfl) ?_
  refine tk_ 5 99 (fl 9 63) rfl rfl (by kernel_rfl) hHeld ?_
  refine pu_ 7 101 (fl 9 191) rfl rfl (by kernel_rfl) ?_
  refine one_ (i := 6) (N := some 100) (fl 9 255) rfl rfl (by kernel_rfl) (by decide) (fun K hK => ?_)
  refine look_step (k := y.u) (v := .int .i64 rv) (by rfl) rfl rfl (MP_m.out.ext (Ext.none_ (by repeat (first | exact Below.refl _ _ | apply pw_below_drewN | apply below_drew1))) (fun e => e)) Try.underlying70 Try.underlying3 zeroI ?hx ?hy ((HF.out y.u).trans (congrArg (Value.int .i64) HRV.out.symm)) ?_
  case hx => rfl
  case hy => rfl
  refine hK.out _ _ ?_ (fun hHeld => ?_)
  ·exact ⟨(blk_cell (bk_ BK_g) 9).trans rfl, (blk_cell (bk_ BK_s) 1).trans rfl⟩
  clear hK K
  refine norm_ (a' := ?_) ?_ ?_
  rotate_left
  ·show Act.put _ (some 100) _ = _
   simp only [Act.put, List.setIfInBounds_toArray, List.set_cons_zero, List.set_cons_succ, i64_w, i32_w]
   rfl
  refine pu_ 8 102 (fl 9 511) rfl rfl (by kernel_rfl) ?_
  refine done_ (by kernel_rfl) ?_
  generalize hwd : World.drew w4 = w5
  have HBc : Below w4.heap.size w4 w5 := (by rw [← hwd]; exact below_drew (Below.refl _ _))
  clear hwd
  replace OB_l := Aside0.mk (ks_mv OB_l.out (Ext.none_ HBc) (fun _ _ e => e))
  replace KP := Aside0.mk (keeps_then KP.out HBc)
  replace BK_g := Aside0.mk (Ext.blk (Ext.none_ HBc) BK_g.out (fun e => e))
  replace BK_s := Aside0.mk (Ext.blk (Ext.none_ HBc) BK_s.out (fun e => e))
  replace MP_m := Aside0.mk (IsMap.ext MP_m.out (Ext.none_ HBc) (fun e => e))
  replace XT := Aside0.mk (XT.out.stepB HBc)
  clear HBc
  go_upto_region 17 with (fail)
  obtain ⟨A2, hA2⟩ : ∃ A2, A2 = (if c = 1 then some ⟨gl, 0, none⟩ else (some ⟨gl, 0, none⟩ : Option Addr).map (·.add (1 * 9))) := ⟨_, rfl⟩
  have hs1 := slice_to gl c xs.length HCAP.out; have hs2 := slice_from gl c xs.length; rw [← hA2] at hs2
  have hvc := rowC OB_l.out HCAP.out; rw [← hA2] at hvc; have HVC := Aside0.mk hvc; clear hvc hA2
  have XT0 := XT; have LTS : Aside0 (s < w5.heap.size) := ⟨blk_lt BK_s.out⟩
  have hw1 : wrap64 1 = 1 := by unfold wrap64; omega
  refine start_ (n := 19) (S := fun W => W.cell? ⟨g, 5, none⟩ = some (.slice (some ⟨gl, 0, none⟩) (xs.length + 1) c)) (ds := [18]) (fl 19 0) (by kernel_rfl) rfl (by kernel_rfl) ?_ (fun hHeld => ?_)
  ·exact (blk_cell (bk_ BK_g) 5).trans rfl
  refine pu_ 0 103 (fl 19 1) rfl rfl (by kernel_rfl) ?_ (ha := by simp only [Act.put, List.setIfInBounds_toArray, List.set_cons_zero, List.set_cons_succ, i64_w, i32_w, hw1]; rfl)
  refine pu_ 1 104 (fl 19 3) rfl rfl (by kernel_rfl) ?_ (ha := by simp only [Act.put, List.setIfInBounds_toArray, List.set_cons_zero, List.set_cons_succ, i64_w, i32_w, hw1]; rfl)
  refine pu_ 2 105 (fl 19 7) rfl rfl (by kernel_rfl) ?_ (ha := by simp only [Act.put, List.setIfInBounds_toArray, List.set_cons_zero, List.set_cons_succ, i64_w, i32_w, hw1]; rfl)
  refine pu_ 3 106 (fl 19 15) rfl rfl (by kernel_rfl) ?_ (ha := by simp only [Act.put, List.setIfInBounds_toArray, List.set_cons_zero, List.set_cons_succ, i64_w, i32_w, hw1]; rfl)
  refine tk_ 4 107 (fl 19 31) rfl rfl (by kernel_rfl) hHeld ?_ (ha := by simp only [Act.put, List.setIfInBounds_toArray, List.set_cons_zero, List.set_cons_succ, i64_w, i32_w, hw1]; rfl)
  refine pu_ 5 108 (fl 19 63) rfl rfl (by kernel_rfl) ?_ (ha := by simp only [Act.put, List.setIfInBounds_toArray, List.set_cons_zero, List.set_cons_succ, i64_w, i32_w, hw1]; rfl)
  refine tk_ 6 109 (fl 19 127) rfl rfl (by kernel_rfl) hHeld ?_ (ha := by simp only [Act.put, List.setIfInBounds_toArray, List.set_cons_zero, List.set_cons_succ, i64_w, i32_w, hw1]; rfl)
  refine pu_ 7 110 (fl 19 255) rfl rfl (by kernel_rfl) ?_ (ha := by simp only [Act.put, List.setIfInBounds_toArray, List.set_cons_zero, List.set_cons_succ, i64_w, i32_w, hw1]; rfl)
  refine pu_ 8 111 (fl 19 511) rfl rfl (by kernel_rfl) ?_ (ha := by simp only [Act.put, List.setIfInBounds_toArray, List.set_cons_zero, List.set_cons_succ, i64_w, i32_w, hw1]; rfl)
  refine pu_ 9 112 (fl 19 1023) rfl rfl (by kernel_rfl) ?_ (ha := by simp only [Act.put, List.setIfInBounds_toArray, List.set_cons_zero, List.set_cons_succ, i64_w, i32_w, hw1]; rfl)
  refine tk_ 10 113 (fl 19 2047) rfl rfl (by kernel_rfl) hHeld ?_ (ha := by simp only [Act.put, List.setIfInBounds_toArray, List.set_cons_zero, List.set_cons_succ, i64_w, i32_w, hw1]; rfl)
  refine pu_ 11 114 (fl 19 4095) rfl rfl (by kernel_rfl) ?_ (ha := by simp only [Act.put, List.setIfInBounds_toArray, List.set_cons_zero, List.set_cons_succ, i64_w, i32_w, hw1]; rfl)
  refine pu_ 12 115 (fl 19 8191) rfl rfl (by kernel_rfl) ?_ (ha := by simp only [Act.put, List.setIfInBounds_toArray, List.set_cons_zero, List.set_cons_succ, i64_w, i32_w, hw1]; rfl)
  refine tk_ 13 116 (fl 19 16383) rfl rfl (by kernel_rfl) hHeld ?_ (ha := by simp only [Act.put, List.setIfInBounds_toArray, List.set_cons_zero, List.set_cons_succ, i64_w, i32_w, hw1]; rfl)
  refine one_ (i := 14) (N := some 117) (fl 19 32767) rfl rfl (by kernel_rfl) (by decide) (fun K hK => ?_)
  refine value_ (v := ?vv) (w1 := ?ww) (by rfl) rfl ?hr ?kk
  case hr => (go_simp; refine And.intro ?_ ?_ <;> rfl)
  refine hK.out _ _ ?_ (fun hHeld => ?_)
  ·exact (blk_cell (bk_ BK_g) 5).trans rfl
  clear hK K
  refine norm_ (a' := ?_) ?_ ?_
  rotate_left
  ·show Act.put _ (some 117) _ = _
   simp only [Act.put, List.setIfInBounds_toArray, List.set_cons_zero, List.set_cons_succ, i64_w, i32_w, hw1]
   rfl
  refine one_ (i := 15) (N := some 118) (fl 19 65535) rfl rfl (by kernel_rfl) (by decide) (fun K hK => ?_)
  refine goes_ Try.func33 (by kernel_rfl) rfl #[.slice (some ⟨w5.heap.size, 0, none⟩) 2 2] (by rfl) rfl rfl (by (try simp only [List.map_toArray, List.map_cons, List.map_nil]); first | done | rfl) ?_
  refine (concat_c (some ⟨gl, 0, none⟩) A2 c (c - 1) xs w5.heap.size 2 _ ?hgb ?hvv HLX.out).mono ?_
  case hgb => exact new_blk (W := w5) rfl
  case hvv => exact Kd.C_below HVC.out (by repeat (first | exact Below.refl _ _ | apply pw_below_drewN | apply below_drew1 | apply below_alloc))
  rintro e w6 ⟨vn, rfl, HOn, HBn⟩
  refine ⟨_, rfl, ?_⟩
  have HBc : Below w5.heap.size w5 w6 := below_step (by repeat (first | exact Below.refl _ _ | apply pw_below_drewN | apply below_drew1 | apply below_alloc)) HBn
  skip
  have HNS : Aside0 (∀ k, vn.ownBlock = some k → w5.heap.size ≤ k) := ⟨fun k hk => Nat.le_trans (below_size (by repeat (first | exact Below.refl _ _ | apply pw_below_drewN | apply below_drew1 | apply below_alloc))) (HOn.base_le k hk)⟩
  replace OB_l := Aside0.mk (ks_mv OB_l.out (Ext.none_ HBc) (fun _ _ e => e))
  replace KP := Aside0.mk (keeps_then KP.out HBc)
  replace BK_g := Aside0.mk (Ext.blk (Ext.none_ HBc) BK_g.out (fun e => e))
  replace BK_s := Aside0.mk (Ext.blk (Ext.none_ HBc) BK_s.out (fun e => e))
  replace MP_m := Aside0.mk (IsMap.ext MP_m.out (Ext.none_ HBc) (fun e => e))
  replace XT := Aside0.mk (XT.out.stepB HBc)
  have OB_n : Aside0 (OwnE ks (fun _ => False) 39 B w6 vn xs) := ⟨ks_low HOn (Nat.le_trans (Nat.le_trans HBW.out XT0.out.size) (below_size (by repeat (first | exact Below.refl _ _ | apply pw_below_drewN | apply below_drew1 | apply below_alloc))))⟩
  have NE_n_s : Aside0 (∀ k, (vn).ownBlock = some k → k ≠ s) := ⟨fun k hk e => by have := HNS.out k hk; have := LTS.out; omega⟩
  have NE_n_g : Aside0 (∀ k, (vn).ownBlock = some k → k ≠ g) := ⟨ks_ne HOn BK_g.out (by decide)⟩
  have NE_n_m : Aside0 (∀ k, (vn).ownBlock = some k → k ≠ m) := ⟨ks_nm HOn MP_m.out⟩
  clear HOn HBn HBc HNS HVC hs1 hs2 XT0 LTS OB_l NE_l_g NE_l_m NE_l_s
  have OB_l := OB_n; have NE_l_s := NE_n_s; have NE_l_g := NE_n_g; have NE_l_m := NE_n_m; clear OB_n NE_n_s NE_n_g NE_n_m
  obtain ⟨A3, c3, rfl⟩ := OB_l.out.slice
  refine hK.out _ _ ?_ (fun hHeld => ?_)
  ·exact (blk_cell (bk_ BK_g) 5).trans rfl
  clear hK K
  refine norm_ (a' := ?_) ?_ ?_
  rotate_left
  ·show Act.put _ (some 118) _ = _
   simp only [Act.put, List.setIfInBounds_toArray, List.set_cons_zero, List.set_cons_succ, i64_w, i32_w, hw1]
   rfl
  refine pu_ 16 119 (fl 19 131071) rfl rfl (by kernel_rfl) ?_ (ha := by simp only [Act.put, List.setIfInBounds_toArray, List.set_cons_zero, List.set_cons_succ, i64_w, i32_w, hw1]; rfl)
  refine pu_ 17 120 (fl 19 262143) rfl rfl (by kernel_rfl) ?_ (ha := by simp only [Act.put, List.setIfInBounds_toArray, List.set_cons_zero, List.set_cons_succ, i64_w, i32_w, hw1]; rfl)
  refine last_ (i := 18) (N := none) (fl 19 524287) rfl rfl (by kernel_rfl) (by decide) (fun K hK => ?_)
  have lz : w6.cell? ⟨g, 5, none⟩ = some (.slice (some ⟨gl, 0, none⟩) (xs.length + 1) c) := (blk_cell BK_g.out 5).trans rfl; have lzf := blk_frozen BK_g.out 5
  refine skip_ (w1 := ?_) (by rfl) rfl ?_ ?_
  rotate_left
  ·go_simp
   rfl
  clear lz lzf
  generalize hw_ : World.setCell w6 ⟨g, 5, none⟩ _ = w7
  obtain ⟨hput, HEc⟩ := put1 (cs' := #[.int .i64 wait, .int .i64 again, .int .i64 pause, .int .i64 t, .int .i64 tk, .slice A3 xs.length c3, .pointer none, .int .i64 times, .int .i64 last, .map (some m)]) hw_.symm BK_g.out rfl
  clear hw_
  replace OB_l := Aside0.mk (ks_mv OB_l.out HEc NE_l_g.out)
  replace KP := Aside0.mk (keeps_set KP.out HEc BK_g.out (.inl rfl))
  replace BK_s := Aside0.mk (Ext.blk HEc BK_s.out NE_s_g.out)
  replace MP_m := Aside0.mk (IsMap.ext MP_m.out HEc NE_m_g.out)
  replace XT := Aside0.mk (XT.out.step HEc (F_g.out))
  clear BK_g
  have BK_g : Aside0 (w7.heap[g]? = some (.cells #[.int .i64 wait, .int .i64 again, .int .i64 pause, .int .i64 t, .int .i64 tk, .slice A3 xs.length c3, .pointer none, .int .i64 times, .int .i64 last, .map (some m)] 73 (0, 0))) := ⟨hput⟩
  clear hput HEc
  refine hK.out _ _ ?_
  clear hK K
  refine done_ (by kernel_rfl) ?_
  clear hw1
  refine cl10_ BK_g.out ?_; intro lc9_0 lc9_1 lc9_2 lc9_3 lc9_4 lc9_5 lc9_6 lc9_7 lc9_8 lc9_9 lf9_0 lf9_1 lf9_2 lf9_3 lf9_4 lf9_5 lf9_6 lf9_7 lf9_8 lf9_9
  refine cl9_ BK_s.out ?_; intro lc10_0 lc10_1 lc10_2 lc10_3 lc10_4 lc10_5 lc10_6 lc10_7 lc10_8 lf10_0 lf10_1 lf10_2 lf10_3 lf10_4 lf10_5 lf10_6 lf10_7 lf10_8
  go_upto_region 19 with (first | ((with_reducible refine gate_store (p := 124) rfl ?_); refine store_event (w1 := ?_) rfl (p := 124) rfl rfl ?hr ?_; rotate_left; (case hr => go_simp; rfl); intro w8 hw_; obtain ⟨hput, HEc⟩ := put1 (cs' := #[.int .i64 wait, .int .i64 again, .int .i64 pause, .int .i64 t, .int .i64 tk, .slice A3 xs.length c3, .pointer (some ⟨s, 0, none⟩), .int .i64 times, .int .i64 last, .map (some m)]) hw_ BK_g.out rfl; clear hw_; replace OB_l := Aside0.mk (ks_mv OB_l.out HEc NE_l_g.out); replace KP := Aside0.mk (keeps_set KP.out HEc BK_g.out (.inl rfl)); clear lc9_0 lc9_1 lc9_2 lc9_3 lc9_4 lc9_5 lc9_6 lc9_7 lc9_8 lc9_9 lf9_0 lf9_1 lf9_2 lf9_3 lf9_4 lf9_5 lf9_6 lf9_7 lf9_8 lf9_9 lc10_0 lc10_1 lc10_2 lc10_3 lc10_4 lc10_5 lc10_6 lc10_7 lc10_8 lf10_0 lf10_1 lf10_2 lf10_3 lf10_4 lf10_5 lf10_6 lf10_7 lf10_8; replace BK_s := Aside0.mk (Ext.blk HEc BK_s.out NE_s_g.out); replace MP_m := Aside0.mk (IsMap.ext MP_m.out HEc NE_m_g.out); replace XT := Aside0.mk (XT.out.step HEc (F_g.out)); clear BK_g; have BK_g : Aside0 (w8.heap[g]? = some (.cells #[.int .i64 wait, .int .i64 again, .int .i64 pause, .int .i64 t, .int .i64 tk, .slice A3 xs.length c3, .pointer (some ⟨s, 0, none⟩), .int .i64 times, .int .i64 last, .map (some m)] 73 (0, 0))) := ⟨hput⟩; clear hput HEc; refine cl10_ BK_g.out ?_; intro lc11_0 lc11_1 lc11_2 lc11_3 lc11_4 lc11_5 lc11_6 lc11_7 lc11_8 lc11_9 lf11_0 lf11_1 lf11_2 lf11_3 lf11_4 lf11_5 lf11_6 lf11_7 lf11_8 lf11_9; refine cl9_ BK_s.out ?_; intro lc12_0 lc12_1 lc12_2 lc12_3 lc12_4 lc12_5 lc12_6 lc12_7 lc12_8 lf12_0 lf12_1 lf12_2 lf12_3 lf12_4 lf12_5 lf12_6 lf12_7 lf12_8) | ((with_reducible refine gate_store (p := 126) rfl ?_); refine store_event (w1 := ?_) rfl (p := 126) rfl rfl ?hr ?_; rotate_left; (case hr => go_simp; rfl); intro w9 hw_; obtain ⟨hput, HEc⟩ := put1 (cs' := #[.int .i64 wait, .int .i64 again, .int .i64 pause, .int .i64 t, .int .i64 tk, .slice A3 xs.length c3, .pointer (some ⟨s, 0, none⟩), .int .i64 0, .int .i64 last, .map (some m)]) hw_ BK_g.out rfl; clear hw_; replace OB_l := Aside0.mk (ks_mv OB_l.out HEc NE_l_g.out); replace KP := Aside0.mk (keeps_set KP.out HEc BK_g.out (.inl rfl)); clear lc11_0 lc11_1 lc11_2 lc11_3 lc11_4 lc11_5 lc11_6 lc11_7 lc11_8 lc11_9 lf11_0 lf11_1 lf11_2 lf11_3 lf11_4 lf11_5 lf11_6 lf11_7 lf11_8 lf11_9 lc12_0 lc12_1 lc12_2 lc12_3 lc12_4 lc12_5 lc12_6 lc12_7 lc12_8 lf12_0 lf12_1 lf12_2 lf12_3 lf12_4 lf12_5 lf12_6 lf12_7 lf12_8; replace BK_s := Aside0.mk (Ext.blk HEc BK_s.out NE_s_g.out); replace MP_m := Aside0.mk (IsMap.ext MP_m.out HEc NE_m_g.out); replace XT := Aside0.mk (XT.out.step HEc (F_g.out)); clear BK_g; have BK_g : Aside0 (w9.heap[g]? = some (.cells #[.int .i64 wait, .int .i64 again, .int .i64 pause, .int .i64 t, .int .i64 tk, .slice A3 xs.length c3, .pointer (some ⟨s, 0, none⟩), .int .i64 0, .int .i64 last, .map (some m)] 73 (0, 0))) := ⟨hput⟩; clear hput HEc; refine cl10_ BK_g.out ?_; intro lc13_0 lc13_1 lc13_2 lc13_3 lc13_4 lc13_5 lc13_6 lc13_7 lc13_8 lc13_9 lf13_0 lf13_1 lf13_2 lf13_3 lf13_4 lf13_5 lf13_6 lf13_7 lf13_8 lf13_9; refine cl9_ BK_s.out ?_; intro lc14_0 lc14_1 lc14_2 lc14_3 lc14_4 lc14_5 lc14_6 lc14_7 lc14_8 lf14_0 lf14_1 lf14_2 lf14_3 lf14_4 lf14_5 lf14_6 lf14_7 lf14_8))
  clear lc13_0 lc13_1 lc13_2 lc13_3 lc13_4 lc13_5 lc13_6 lc13_7 lc13_8 lc13_9 lf13_0 lf13_1 lf13_2 lf13_3 lf13_4 lf13_5 lf13_6 lf13_7 lf13_8 lf13_9 lc14_0 lc14_1 lc14_2 lc14_3 lc14_4 lc14_5 lc14_6 lc14_7 lc14_8 lf14_0 lf14_1 lf14_2 lf14_3 lf14_4 lf14_5 lf14_6 lf14_7 lf14_8
  have HIa : Aside0 (IsM B w9 g m ⟨wait, again, pause, t, tk, xs, some y, 0, last, rest⟩) := ⟨⟨⟨_, _, BK_g.out, OB_l.out, ⟨s, rfl, BK_s.out, BG_s.out, NE_l_s.out⟩⟩, ⟨_, _, MP_m.out, HF.out⟩⟩⟩
  have HBC : Aside0 (B ≤ w9.heap.size) := ⟨Nat.le_trans HBW.out XT.out.size⟩
  go_wp2_with (first | (go_at_call 32; refine (send_f HIa.out HBC.out (KP.out.row HV1.out) HVL.out).mono ?_; rintro e w10 ⟨A', k', rfl, hkc, hin, HI2, HX, HK⟩; have HKC := Aside0.mk hkc; clear hkc; have HI2 := Aside0.mk HI2; have HX := Aside0.mk HX; have HK := Aside0.mk HK; have HIN := Aside0.mk hin; clear hin) | ((with_reducible refine gate_dst (N := 129) rfl ?_); refine bs_ev (N := 129) ?hg ?hd (cs := #[.int .i64 y.t, .int .i64 y.u, .int .i64 y.f, .int .i64 y.a, .int .i64 y.c, .slice A' y.l k', .int .i64 y.o, .int .i64 y.n, .int .i64 y.r]) (t := 39) (n := 1) ?hr ?_; (case hd => rfl); (case hg => rfl); (case hr => first | (go_simp; done) | (go_simp; rfl)); intro ga hg w11 hbox HBc; have HBOX := Aside0.mk hbox; have HBE := Aside0.mk HBc; clear hbox HBc hg))
  try rw [Exit.noGoto_ret]
  go_ret3
  exact ⟨_, _, rfl, A', k', sent_mk HBOX.out, rfl, HKC.out, irow_below HIN.out HBE.out, HI2.out.below HBE.out, ((HBB.out.trans XT.out).trans (extg HX.out)).trans (Ext.of_below HBE.out), ((HKG.out.trans KP.out).trans HK.out).trans (keeps_below HBE.out)⟩
end Go.Proofs.Ytlalpooiegganaa.MsgE
end

section
namespace Go.Proofs.Ytlalpooiegganaa.Ext
open Go.RowKit Go.Proofs.YtlalpooiegganaaW.PrintWords Go.Proofs.YtlalpooiegganaaW.PrintLast Go.Proofs.YtlalpooiegganaaW.PrintMore
set_option linter.unusedVariables false
set_option linter.unusedSimpArgs false
theorem info5 : (Try.prog.info? 5).map (fun i => (i.zero, i.size, i.bytes)) = some (some (.int .u8 0), 1, 1) := by kernel_rfl
theorem own_copied {W : World} {base g n cap : Nat} {e : TypeId} {k : IntKind} {xs : List Int} {cur : List Value} (hg : W.heap[g]? = some (.cells cur.toArray e (0, 0))) (hb : base ≤ g) (hl : xs.length = n) (hc : cur.length = cap) (hn : n ≤ cap) (hm : cap ≤ 9223372036854775807)
 (ht : cur.take n = nums k xs) : W.ownsRow base e 1 (.slice (some ⟨g, 0, none⟩) n cap) n (nums k xs) :=
 ⟨by simp [nums, hl], .inr ⟨g, cap, cur.toArray, rfl, hb, hg, hn, by simpa [maxLen] using hm, by simpa using hc, by simpa using ht⟩⟩
theorem wp_copy_row {P : Program} {w : World} {ops : Array Oper} {rest : List Oper} {o : Oper} {a : Act} {Q : Exit → Act → World → Prop} (hgd : o.guard = none) (d s : Operand) (dT sT : TypeId)
 (ho : o.op = .call { callee := .builtin .copy, args := #[d, s], argTypes := #[dT, sT] }) (e : TypeId) (hu : P.underlying dT = some (.slice e)) (hsz : (P.info? e).map (·.size) = some 1) (k : IntKind)
 (g : Nat) (A : Option Addr) (dCap sCap : Nat) (xs : List Int) (cur : List Value) (hd : a.eval d = .slice (some ⟨g, 0, none⟩) xs.length dCap) (hs : a.eval s = .slice A xs.length sCap)
 (hg : w.heap[g]? = some (.cells cur.toArray e (0, 0))) (hr : ReadsInt w k A xs.length xs) (hfit : xs.length ≤ cur.length)
 (w0 : World) (hb : Below w0.heap.size w0 w) (hBg : w0.heap.size ≤ g)
 (h : ∀ w', Aside0 (w'.heap[g]? = some (.cells (nums k xs ++ cur.drop xs.length).toArray e (0, 0))) → Aside0 (Below w0.heap.size w0 w') → wpList P ops Q rest (a.put o.dst (goInt xs.length)) w') :
 wpList P ops Q (o :: rest) a w := by
 refine wpList_copy_splice hgd d s dT sT ho e hu hsz (some ⟨g, 0, none⟩) A xs.length dCap xs.length sCap hd hs g 0 cur e hg (nums k xs) (by simp [nums]) (fun hp => ⟨rfl, ?_⟩) (by simpa [nums] using hfit)
  (by intro v hv; simp [nums] at hv; obtain ⟨x, _, rfl⟩ := hv; rfl) w0.heap.size w0 hb hBg (fun w' h1 h2 => ?_)
 ·have hp' : 0 < xs.length := by simpa [nums] using hp
  obtain ⟨ad, rfl, _⟩ := ReadsInt.at_ hr 0 (by omega) (by omega)
  refine ⟨ad, rfl, fun j v hj => ?_⟩
  have hlt : j < xs.length := by have := (List.getElem?_eq_some_iff.1 hj).1; simpa [nums] using this
  obtain ⟨ad', e', hc⟩ := ReadsInt.at_ hr (j : Int) (by omega) (by omega)
  cases e'
  rw [Int.toNat_natCast] at hc
  rw [hc]
  simp [nums, List.getElem?_map, List.getElem?_eq_getElem hlt] at hj
  rw [← hj]
  simp [rd, List.getElem?_eq_getElem hlt]
 ·have h1' : w'.heap[g]? = some (.cells (splice cur 0 (nums k xs)).toArray e (0, 0)) := h1
  have e1 : splice cur 0 (nums k xs) = nums k xs ++ cur.drop xs.length := by simp [splice, nums]
  rw [e1] at h1'
  have hl : (nums k xs).length = xs.length := by simp [nums]
  rw [hl]
  exact h w' ⟨h1'⟩ ⟨h2⟩
def wire_behind.f (l0 : List Int) (a1 : Int) : Option (List Int) := if 0 ≤ a1 ∧ (l0.length : Int) + a1 ≤ 140737488355328 then some l0 else none
set_option maxHeartbeats 8000000 in
set_option maxRecDepth 1000000 in
theorem wire_behind.calls (A0 : Option Addr) (c0 : Nat) (l0 : List Int) (a1 : Int) (r : List Int) (w : World) (hr0 : Kd.C (Kd.int .u8) w A0 l0.length l0) (hc0 : l0.length ≤ c0) (h : wire_behind.f l0 a1 = some r) :
 Calls Try.prog 70 #[.slice A0 l0.length c0, .int .i64 a1] w fun e w' => ∃ v0_ : Value, e = .returned (v0_) ∧ Kd.R (Kd.int .u8) 5 w' w.heap.size (fun _ => True) v0_ r ∧ Below w.heap.size w w' := by
 unfold wire_behind.f at h
 by_cases hc : 0 ≤ a1 ∧ (l0.length : Int) + a1 ≤ 140737488355328
 ·rw [if_pos hc] at h
  obtain ⟨h0, h1⟩ := hc
  obtain rfl := Option.some.inj h
  obtain ⟨m, rfl⟩ := Int.eq_ofNat_of_zero_le h0
  obtain ⟨i0, hi, hz0, hz1, hz2⟩ := info_parts info5
  have hmk := fun W : World => run_make (P := Try.prog) W 43 5 i0 (.int .u8 0) Try.underlying43 hi hz0 .i64 .i64 (l0.length : Int) ((l0.length : Int) + (m : Int)) (by omega) (by omega) (by rw [hz2]; omega) (by omega)
  simp only [hz1, Nat.mul_one, Int.toNat_natCast] at hmk
  rw [show ((l0.length : Int) + (m : Int)).toNat = l0.length + m from by omega] at hmk
  go_enter Try.func70, Try.ntmps70
  have hR : Aside0 (ReadsInt w .u8 A0 l0.length l0) := ⟨Kd.reads_of_C hr0⟩
  clear hr0
  go_wp2_with ((with_reducible refine gate_builtin (b := .copy) (xs := #[.tmp 13, .tmp 14]) rfl ?_); (refine wp_copy_row rfl (.tmp 13) (.tmp 14) 43 43 rfl 5 Try.underlying43 (by kernel_rfl) .u8 w.heap.size A0 _ c0 l0 (madeCells #[Value.int IntKind.u8 0] (l0.length + m)).toList rfl rfl ?c1 ?c2 ?c3 w ?c4 (Nat.le_refl _) ?_; (case c1 => exact heap_alloc_new w _); (case c2 => exact hR.out.below (below_alloc (Below.refl _ _) _)); (case c3 => simp [size_madeCells]); (case c4 => exact below_alloc (Below.refl _ _) _); intro w2 HG2 HB2))
  go_ret
  refine ⟨_, rfl, Kd.R_of_own ?_ (fun _ _ => trivial), HB2.out⟩
  refine own_copied HG2.out (Nat.le_refl _) rfl ?_ (by omega) (by omega) (by simp [nums])
  simp [nums, size_madeCells]
 ·rw [if_neg hc] at h
  cases h
end Go.Proofs.Ytlalpooiegganaa.Ext
end

section
namespace Go.Proofs.Ytlalpooiegganaa.PP
open Go.RowKit Go.Proofs.YtlalpooiegganaaW.PrintWords Go.Proofs.YtlalpooiegganaaW.PrintLast Go.Proofs.YtlalpooiegganaaW.PrintMore
attribute [local go_sem] max2_int min2_int max_two min_two max_three min_three max_four min_four   
set_option linter.unusedVariables false
set_option linter.unusedSimpArgs false
open Go.Proofs.Ytlalpooiegganaa.Ext
def errW : Option Int → Value
 | none => .nilIface
 | some c => .iface 0 (.int .i64 c)
theorem errW_none : errW none = .nilIface := rfl
theorem errW_some (c : Int) : errW (some c) = .iface 0 (.int .i64 c) := rfl
theorem info5 : (Try.prog.info? 5).map (fun i => (i.zero, i.size, i.bytes)) = some (some (.int .u8 0), 1, 1) := by kernel_rfl
end Go.Proofs.Ytlalpooiegganaa.PP
end

section
namespace Go.Proofs.Ytlalpooiegganaa.PP
open Go.RowKit Go.Proofs.YtlalpooiegganaaW.PrintWords Go.Proofs.YtlalpooiegganaaW.PrintLast Go.Proofs.YtlalpooiegganaaW.PrintMore
attribute [local go_sem] max2_int min2_int max_two min_two max_three min_three max_four min_four   
set_option linter.unusedVariables false
set_option linter.unusedSimpArgs false
open Go.Proofs.Ytlalpooiegganaa.Ext
def wire_Put.f (l0 : List Int) (a1 : Int) : Option (List Int × Int) := if a1 < 0 then (some (([] : List Int), 1)) else (if a1 > 65535 then (some (([] : List Int), 1)) else ((wire_behind.f l0 2).bind fun t101 => ((some (([(a1 / 256) % 256, (a1) % 256] : List Int) : List Int)).bind fun y104 => (if t101.length + y104.length < 140737488355328 then (some ((t101 ++ y104), 0)) else (none)))))
set_option maxHeartbeats 8000000 in
set_option maxRecDepth 100000 in
theorem wire_Put.calls (A0 : Option Addr) (c0 : Nat) (l0 : List Int) (a1 : Int) (r1 : List Int) (r2 : Int) (w : World) (hr0 : Kd.C (Kd.int .u8) w A0 l0.length l0) (hc0 : l0.length ≤ c0) (h : wire_Put.f l0 a1 = some (r1, r2)) :
 Calls Try.prog 69 #[.slice A0 l0.length c0, .int .i64 a1] w fun e w' => ∃ v0_ : Value, e = .returned (.tuple #[v0_, .int .i64 r2]) ∧ Kd.R (Kd.int .u8) 5 w' w.heap.size (fun _ => True) v0_ r1 ∧ Below w.heap.size w w' := by
 have HR0 := Aside0.mk hr0
 have HC0 := Aside0.mk hc0
 clear hr0 hc0
 have HB := Aside0.mk (Below.refl w.heap.size w)
 have H : (if a1 < 0 then (some (([] : List Int), 1)) else (if a1 > 65535 then (some (([] : List Int), 1)) else ((wire_behind.f l0 2).bind fun t101 => ((some (([(a1 / 256) % 256, (a1) % 256] : List Int) : List Int)).bind fun y104 => (if t101.length + y104.length < 140737488355328 then (some ((t101 ++ y104), 0)) else (none)))))) = some (r1, r2) := h
 clear h
 by_cases c3 : a1 < 0
 ·rw [if_pos c3] at H
  have c3b0 : decide (a1 < 0) = true := decide_eq_true c3
  clear c3
  simp only [Option.some.injEq, Prod.mk.injEq] at H
  obtain ⟨rfl, rfl⟩ := H
  go_enter Try.func69, Try.ntmps69
  go_wp2
  go_ret2
  exact ⟨_, er_, by first | exact Kd.R_nil _ _ _ _ _ | exact Kd.N_nil _ _ _ _ _ | exact Kd.V_nil _ _ _ _ _ | exact Kd.Q_nil _ _ _ _ _ | exact Kd.S_nil _ _ _ _ _, bl0_ HB⟩
 ·rw [if_neg c3] at H
  have c3b0 : decide (a1 < 0) = false := decide_eq_false c3
  clear c3
  by_cases c4 : a1 > 65535
  ·rw [if_pos c4] at H
   have c4b0 : decide (65535 < a1) = true := decide_eq_true c4
   clear c4
   simp only [Option.some.injEq, Prod.mk.injEq] at H
   obtain ⟨rfl, rfl⟩ := H
   go_enter Try.func69, Try.ntmps69
   go_wp2
   go_ret2
   exact ⟨_, er_, by first | exact Kd.R_nil _ _ _ _ _ | exact Kd.N_nil _ _ _ _ _ | exact Kd.V_nil _ _ _ _ _ | exact Kd.Q_nil _ _ _ _ _ | exact Kd.S_nil _ _ _ _ _, bl0_ HB⟩
  ·rw [if_neg c4] at H
   have c4b0 : decide (65535 < a1) = false := decide_eq_false c4
   clear c4
   replace H := Option.bind_eq_some_iff.mp H
   obtain ⟨t101, A50, H⟩ := H
   replace H : ((some (([(a1 / 256) % 256, (a1) % 256] : List Int) : List Int)).bind fun y104 => (if t101.length + y104.length < 140737488355328 then (some ((t101 ++ y104), 0)) else (none))) = some (r1, r2) := H
   have A5 := Aside0.mk A50
   clear A50
   obtain ⟨y104, hy104⟩ : ∃ y_ : List Int, y_ = (([(a1 / 256) % 256, (a1) % 256] : List Int)) := ⟨_, rfl⟩
   replace H : (if t101.length + y104.length < 140737488355328 then (some ((t101 ++ y104), 0)) else (none)) = some (r1, r2) := by first | (rw [hy104]; with_reducible exact H) | (have H2_ := (Option.bind_some _ _).symm.trans H; rw [hy104]; with_reducible exact H2_) | (have H2_ := (Option.bind_some _ _).symm.trans H; with_reducible exact H2_) | with_reducible exact H | (rw [hy104]; exact H) | exact H
   have Ny104 := Aside0.mk hy104
   clear hy104
   by_cases c6 : t101.length + y104.length < 140737488355328
   ·rw [if_pos c6] at H
    have LMc6 := Aside0.mk c6
    clear c6
    obtain ⟨y107, hy107⟩ : ∃ y_ : List Int, y_ = (t101 ++ y104) := ⟨_, rfl⟩
    replace H : (some (y107, 0)) = some (r1, r2) := by first | (rw [hy107]; with_reducible exact H) | (have H2_ := (Option.bind_some _ _).symm.trans H; rw [hy107]; with_reducible exact H2_) | (have H2_ := (Option.bind_some _ _).symm.trans H; with_reducible exact H2_) | with_reducible exact H | (rw [hy107]; exact H) | exact H
    have Ny107 := Aside0.mk hy107
    clear hy107
    simp only [Option.some.injEq, Prod.mk.injEq] at H
    obtain ⟨rfl, rfl⟩ := H
    go_enter Try.func69, Try.ntmps69
    go_wp2_with (first | ((with_reducible refine gate_callee (f := 70) rfl ?_); refine goesL_ (some 13) rfl rfl Try.func70 (by kernel_rfl) rfl #[.slice A0 l0.length c0, .int .i64 2] rfl ar_ ?_; (with_reducible refine (wire_behind.calls _ _ l0 2 t101 _ ?side1 ?side2 A5.out).mono ?_); (case side1 => repeat (first | exact HR0.out | (with_reducible refine Kd.C_alloc ?_ _) | (with_reducible refine Kd.C_drewN ?_ _) | (with_reducible refine Kd.C_drew ?_))); (case side2 => exact HC0.out); rintro e w7 ⟨v102, rfl, ho0, hb⟩; refine ⟨_, rfl, ?_⟩; have n0_ := Aside0.mk (Kd.R_lower ho0 (below_size (bl0_ HB))); have n1_ := Aside0.mk (below_step (bl0_ HB) hb); clear HB; have HO103 := n0_; have HB := n1_; clear n0_ n1_; (try clear hb); (try clear hb2); (try clear hk); (try clear hi); (try clear ho0)) | ((with_reducible refine gate_dst (N := 19) rfl ?_); refine Kd.R_lit (Kd.int .u8) _ 5 ?hg (N := 19) ?hd (xs := ([(a1 / 256) % 256, (a1) % 256] : List Int)) (inner := [.int .u8 ((a1 / 256) % 256), .int .u8 ((a1) % 256)]) (ok := fun _ => True) (okp := fun _ => True) ?hr ?hp (fun _ hk => hk) trivial (Below.refl _ _) (Nat.le_refl _) (by simp) ?_; (case hd => rfl); (case hg => rfl); (case hr => first | (go_simp; done) | (go_simp; rfl)); (case hp => exact (Reps.one (show Kd.M (Kd.int .u8) _ _ _ ((a1 / 256) % 256) [.int .u8 ((a1 / 256) % 256)] from rfl) (Reps.one (show Kd.M (Kd.int .u8) _ _ _ ((a1) % 256) [.int .u8 ((a1) % 256)] from rfl) (Reps.none _ _)))); intro v105 w8 ho9 hb hg_ hnew_; clear hg_ hnew_; (first | rw [← Ny104.out] at ho9 | (simp only [Int.reduceToNat] at ho9; rw [← Ny104.out] at ho9)); have n0_ := Aside0.mk (Kd.R_elder' (kr_ HO103) (Kd.R_base ho9) hb); have n1_ := Aside0.mk (Kd.R_lower (Kd.R_new' ho9 (Kd.R_lt (kr_ HO103))) (below_size (bl0_ HB))); have n2_ := Aside0.mk (below_step (bl0_ HB) hb); clear HO103; clear HB; have HO103 := n0_; have HO106 := n1_; have HB := n2_; clear n0_ n1_ n2_; clear hb ho9; obtain ⟨Ao11, co11, eo11⟩ := Kd.R_slice HO106.out; subst eo11) | ((with_reducible refine gate_builtin (b := .append) (xs := #[.tmp 13, .tmp 19]) rfl ?_); at_builtin; refine Kd.R_append_rows (Kd.int .u8) (w0 := w) w.heap.size rfl (.tmp 13) (.tmp 19) 43 5 (.int .u8 0) 1 rfl Try.underlying43 info5 rfl (by decide) (by omega) v102 t101 y104 _ _ _ (fun k_ => some k_ ≠ (.slice Ao11 y104.length co11 : Value).ownBlock) (fun _ => False) rfl rfl ?aO ?aR (fun _ _ h => h) (fun _ h => h.elim) ?aF ?aB ?aS ?aL ?_; (case aR => exact sc_ (Kd.R_reads' HO106.out).2.2); (case aB => exact (bl0_ HB)); (case aF => exact (fun k_ hk => Kd.fresh' (Kd.R_lt (kr_ HO106)) k_ hk)); (case aO => exact (by (with_reducible repeat (first | apply Kd.R_alloc | apply Kd.R_drewN | apply Kd.R_drew)); exact Kd.R_mono HO103.out (fun _ hk => hk.2))); (case aS => exact (below_size (bl0_ HB))); (case aL => have := LMc6.out; omega); intro v108 w10 ho hb hg hat; rw [← Ny107.out] at ho; have n0_ := Aside0.mk (Kd.R_after (ok := (fun _ => True)) (kr_ HO106) hg hat); have n1_ := Aside0.mk (hb); have n2_ := Aside0.mk (ho); clear HO106; clear HB; clear HO103; have HO106 := n0_; have HB := n1_; have HO109 := n2_; clear n0_ n1_ n2_; clear ho hb hg hat))
    go_ret2
    exact ⟨_, er_, by (with_reducible repeat (first | apply Kd.R_alloc | apply Kd.R_drewN | apply Kd.R_drew)); exact Kd.R_mono HO109.out (fun _ hk => trivial), bl0_ HB⟩
   ·rw [if_neg c6] at H
    exact absurd H (by simp)
end Go.Proofs.Ytlalpooiegganaa.PP
end

section
namespace Go.Proofs.Ytlalpooiegganaa.ExtF
open Go.RowKit Go.Proofs.YtlalpooiegganaaW.PrintWords Go.Proofs.YtlalpooiegganaaW.PrintLast Go.Proofs.YtlalpooiegganaaW.PrintMore Go.Proofs.Ytlalpooiegganaa.Ext Go.Proofs.Ytlalpooiegganaa.PP
set_option linter.unusedVariables false
set_option linter.unusedSimpArgs false
theorem wrap64_id (x : Int) (h0 : -9223372036854775808 ≤ x) (h1 : x ≤ 9223372036854775807) : wrap64 x = x := by unfold wrap64; omega
def lays (l : List Int) : List Int := l.flatMap fun n => [n / 256, n % 256]
theorem lays_len (l : List Int) : (lays l).length = 2 * l.length := by
 induction l with
 | nil => rfl
 | cons x t ih => show ([x / 256, x % 256] ++ lays t).length = _; simp [ih]; omega
theorem lays_snoc (l : List Int) (x : Int) : lays (l ++ [x]) = lays l ++ [x / 256, x % 256] := by simp [lays]
def Words (l : List Int) : Prop := ∀ x ∈ l, 0 ≤ x ∧ x ≤ 65535
instance (l : List Int) : Decidable (Words l) := by unfold Words; infer_instance
theorem put_f (l : List Int) (a : Int) (h : 0 ≤ a ∧ a ≤ 65535) (hl : l.length ≤ 1000000000) : wire_Put.f l a = some (l ++ [a / 256, a % 256], 0) := by
 unfold wire_Put.f wire_behind.f
 rw [if_neg (by omega), if_neg (by omega), if_pos (by omega)]
 simp only [Option.bind_some]
 rw [if_pos (by simp; omega), show a / 256 % 256 = a / 256 from by omega]
def pdu_lay.f (l0 l1 : List Int) : Option (List Int) := if l1 ≠ [] ∧ Words l1 ∧ l0.length ≤ 100000000 ∧ l1.length ≤ 100000000 then some (l0 ++ lays l1) else none
set_option maxHeartbeats 8000000 in
set_option maxRecDepth 100000 in
theorem pdu_lay.calls (A0 : Option Addr) (c0 : Nat) (l0 : List Int) (A1 : Option Addr) (c1 : Nat) (l1 : List Int) (r : List Int) (w : World) (hr0 : Kd.C (Kd.int .u8) w A0 l0.length l0) (hc0 : l0.length ≤ c0) (hr1 : Kd.C (Kd.int .i64) w A1 l1.length l1) (hc1 : l1.length ≤ c1) (h : pdu_lay.f l0 l1 = some r) :
 Calls Try.prog 63 #[.slice A0 l0.length c0, .slice A1 l1.length c1] w fun e w' => ∃ v0_ : Value, e = .returned (v0_) ∧ Kd.R (Kd.int .u8) 5 w' w.heap.size (fun _ => True) v0_ r ∧ Below w.heap.size w w' := by
 unfold pdu_lay.f at h
 by_cases hc : l1 ≠ [] ∧ Words l1 ∧ l0.length ≤ 100000000 ∧ l1.length ≤ 100000000
 ·rw [if_pos hc] at h
  obtain rfl := Option.some.inj h
  obtain ⟨hne, hwd, hl0, hl1⟩ := hc
  have hpos : 0 < l1.length := List.length_pos_iff.2 hne
  have HR0 := Aside0.mk hr0
  have HR1 := Aside0.mk hr1
  have HW := Aside0.mk hwd
  clear hr0 hr1 hwd hne h
  have HB := Aside0.mk (Below.refl w.heap.size w)
  go_enter Try.func63, Try.ntmps63
  go_wp2
  go_loopg [0, 9] l1.length (fun kq v0 v9 w' => ∃ (i : Nat) (x0 : List Int) (A : Option Addr) (c : Nat), v9 = .int .i64 (i : Int) ∧ v0 = .slice A x0.length c ∧ Aside0 (i + kq = l1.length) ∧ Aside0 (x0 = l0 ++ lays (l1.take i)) ∧ Aside0 (Kd.C (Kd.int .u8) w' A x0.length x0) ∧ Aside0 (x0.length ≤ c) ∧ Aside0 (0 < i → Kd.R (Kd.int .u8) 5 w' w.heap.size (fun _ => True) (.slice A x0.length c) x0) ∧ Aside0 (Below w.heap.size w w'))
  case atStart => exact ⟨0, l0, A0, c0, rfl, rfl, ⟨by omega⟩, ⟨by simp [lays]⟩, ⟨by (with_reducible repeat (first | refine Kd.C_alloc ?_ _ | refine Kd.C_drewN ?_ _ | refine Kd.C_drew ?_)); exact HR0.out⟩, ⟨hc0⟩, ⟨fun h => absurd h (by omega)⟩, ⟨by repeat (first | exact HB.out | apply below_alloc | apply pw_below_drewN | apply below_drew1 | apply below_drew)⟩⟩
  case round =>
   obtain ⟨i, x0, A, c, rfl, rfl, HI, HX, HC, Hc, HRR, HB2⟩ := hrel
   cases gk with
   | zero =>
    have hi := HI.out
    have hx := HX.out
    obtain rfl : i = l1.length := by omega
    rw [List.take_length] at hx
    have ht : decide ((l1.length : Int) < (l1.length : Int)) = false := by simp
    go_wp2
    go_ret
    refine ⟨_, rfl, ?_, ?_⟩
    ·rw [← hx]; (with_reducible repeat (first | apply Kd.R_alloc | apply Kd.R_drewN | apply Kd.R_drew)); exact HRR.out hpos
    ·repeat (first | exact HB2.out | apply below_alloc | apply pw_below_drewN | apply below_drew1 | apply below_drew)
   | succ k1 =>
    have hi := HI.out
    have hlt : i < l1.length := by omega
    have ht : decide ((i : Int) < (l1.length : Int)) = true := decide_eq_true (by omega)
    obtain ⟨ad, ead, hx⟩ := Kd.at_int HR1.out (i : Int) (by omega) (by omega)
    cases ead
    replace hx := (HB2.out.cell (World.block_lt_of_cell? w _ hx)).trans hx
    have hrd : rd l1 (i : Int) = l1[i] := by simp [rd, List.getElem?_eq_getElem hlt]
    rw [hrd, Int.toNat_natCast] at hx
    have hwx := HW.out l1[i] (List.getElem_mem _)
    have hxl : x0.length = l0.length + 2 * i := by rw [HX.out, List.length_append, lays_len, List.length_take]; omega
    have fput := Aside0.mk (put_f x0 l1[i] hwx (by omega))
    have hnext : Aside0 (x0 ++ [l1[i] / 256, l1[i] % 256] = l0 ++ lays (l1.take (i + 1))) := ⟨by rw [List.take_succ_eq_append_getElem hlt, lays_snoc, ← List.append_assoc, ← HX.out]⟩
    clear hxl
    generalize l1[i] = n at hx fput hnext
    generalize x0 ++ [n / 256, n % 256] = y at fput hnext
    go_wp2_with (go_at_call 69; refine (wire_Put.calls A c x0 n y 0 _ (by (with_reducible repeat (first | refine Kd.C_alloc ?_ _ | refine Kd.C_drewN ?_ _ | refine Kd.C_drew ?_)); exact HC.out) Hc.out fput.out).mono ?_; rintro e w2 ⟨v, rfl, HR, HB⟩; obtain ⟨A2, c2, rfl, hc2, HC2⟩ := Kd.R_reads HR; have HR' := Aside0.mk HR; have HC2' := Aside0.mk HC2; have hc2' := Aside0.mk hc2; have HBn := Aside0.mk (below_step (by repeat (first | exact HB2.out | apply below_alloc | apply pw_below_drewN | apply below_drew1 | apply below_drew)) HB); have hge := below_size (by repeat (first | exact HB2.out | apply below_alloc | apply pw_below_drewN | apply below_drew1 | apply below_drew)); clear HR HC2 hc2 HB)
    go_roundg k1
    case measure => omega
    case rel => exact ⟨i + 1, y, A2, c2, by simp, rfl, ⟨by omega⟩, hnext, ⟨by (with_reducible repeat (first | refine Kd.C_alloc ?_ _ | refine Kd.C_drewN ?_ _ | refine Kd.C_drew ?_)); exact HC2'.out⟩, hc2', ⟨fun _ => by (with_reducible repeat (first | apply Kd.R_alloc | apply Kd.R_drewN | apply Kd.R_drew)); exact Kd.R_lower HR'.out hge⟩, ⟨by repeat (first | exact HBn.out | apply below_alloc | apply pw_below_drewN | apply below_drew1 | apply below_drew)⟩⟩
 ·rw [if_neg hc] at h
  cases h
end Go.Proofs.Ytlalpooiegganaa.ExtF
end

section
namespace Go.Proofs.Ytlalpooiegganaa.ExtM
open Go.RowKit Go.Proofs.YtlalpooiegganaaW.PrintWords Go.Proofs.YtlalpooiegganaaW.PrintLast Go.Proofs.YtlalpooiegganaaW.PrintMore Go.Proofs.Ytlalpooiegganaa.ExtF
set_option linter.unusedVariables false
set_option linter.unusedSimpArgs false
open Go.Proofs.Ytlalpooiegganaa.Chk
def Bits (l : List Int) : Prop := ∀ x ∈ l, x = 0 ∨ x = 1
instance (l : List Int) : Decidable (Bits l) := by unfold Bits; infer_instance
def isB (a : Int) : Bool := decide (0 ≤ a ∧ a ≤ 65535)
def spanB (a n : Int) : Bool := decide (0 ≤ a ∧ a ≤ 65535 ∧ a + n ≤ 65536)
def valB (bit : Bool) (l : List Int) (lo hi : Nat) : Bool := decide (lo ≤ l.length ∧ l.length ≤ hi) && (if bit then decide (Bits l) else decide (Words l))
def mayB (fn a1 a2 : Int) (l0 : List Int) (a4 a5 a6 : Int) : Bool :=
 if fn = 1 ∨ fn = 2 then ((l0.length : Int) == 0) && ((a5 == 0) && (a6 == 0)) && (a4 == 0) && decide (1 ≤ a2) && decide (a2 ≤ 2000) && spanB a1 a2
 else if fn = 3 ∨ fn = 4 then ((l0.length : Int) == 0) && ((a5 == 0) && (a6 == 0)) && (a4 == 0) && decide (1 ≤ a2) && decide (a2 ≤ 125) && spanB a1 a2
 else if fn = 5 then ((a5 == 0) && (a6 == 0)) && (a4 == 0) && (a2 == 0) && valB true l0 1 1 && spanB a1 1
 else if fn = 6 then ((a5 == 0) && (a6 == 0)) && (a4 == 0) && (a2 == 0) && valB false l0 1 1 && spanB a1 1
 else if fn = 15 then ((a5 == 0) && (a6 == 0)) && (a4 == 0) && (a2 == (l0.length : Int)) && valB true l0 1 1968 && spanB a1 (l0.length : Int)
 else if fn = 16 then ((a5 == 0) && (a6 == 0)) && (a4 == 0) && (a2 == (l0.length : Int)) && valB false l0 1 123 && spanB a1 (l0.length : Int)
 else if fn = 22 then ((l0.length : Int) == 0) && (a4 == 0) && (a2 == 0) && spanB a1 1 && isB a5 && isB a6
 else if fn = 23 then ((a5 == 0) && (a6 == 0)) && decide (1 ≤ a2) && decide (a2 ≤ 125) && spanB a1 a2 && valB false l0 1 121 && spanB a4 (l0.length : Int)
 else false
theorem and_eq {a b c d : Bool} (h : a = c) (k : b = d) : (a && b) = (c && d) := by rw [h, k]
theorem sm_bit (l : List Int) (lo hi : Nat) : smB lo hi 1 l = valB true l lo hi :=
 and_eq (decide_eq_decide.2 (by omega)) (by
  rw [if_pos rfl]
  exact decide_eq_decide.2 ⟨fun k x hx => by have := k x hx; omega, fun k x hx => by have := k x hx; omega⟩)
theorem sm_word (l : List Int) (lo hi : Nat) : smB lo hi 65535 l = valB false l lo hi :=
 and_eq (decide_eq_decide.2 (by omega)) (by
  rw [if_neg (by decide)]
  exact decide_eq_decide.2 ⟨fun k x hx => by have := k x hx; omega, fun k x hx => by have := k x hx; omega⟩)
theorem sp_eq (a n : Int) : spB a n = spanB a n := rfl
theorem w_eq (lo hi n : Int) : wB lo hi n = (decide (lo ≤ n) && decide (n ≤ hi)) := by
 unfold wB
 rw [Bool.eq_iff_iff, Bool.and_eq_true, decide_eq_true_eq, decide_eq_true_eq, decide_eq_true_eq]
theorem w_is (n : Int) : wB 0 65535 n = isB n := rfl
theorem chk_may (f a c : Int) (v : List Int) (t n o : Int) : chkB f a c v t n o = mayB f a c v t n o := by
 unfold chkB mayB
 have b1 := sm_bit v 1 1; have b2 := sm_word v 1 1; have b3 := sm_bit v 1 1968; have b4 := sm_word v 1 123; have b5 := sm_word v 1 121
 have c1 : smB 1 1 1 v = valB true v 1 1 := b1
 have c2 : smB 1 1 65535 v = valB false v 1 1 := b2
 have c3 : smB 1 1968 1 v = valB true v 1 1968 := b3
 have c4 : smB 1 123 65535 v = valB false v 1 123 := b4
 have c5 : smB 1 121 65535 v = valB false v 1 121 := b5
 rw [c1, c2, c3, c4, c5, w_is n, w_is o, w_eq 1 2000 c, w_eq 1 125 c]
 simp only [sp_eq, Bool.and_assoc, Bool.and_comm, Bool.and_left_comm]
def pdu_Check.f (a0 a1 a2 : Int) (l : List Int) (a4 a5 a6 : Int) : Option Int := some (if mayB a0 a1 a2 l a4 a5 a6 then 0 else 1)
theorem pdu_Check.calls (a0_0 : Int) (a0_1 : Int) (a0_2 : Int) (A0_3 : Option Addr) (c0_3 : Nat) (l0_3 : List Int) (a0_4 : Int) (a0_5 : Int) (a0_6 : Int) (r : Int) (w : World) (hr0_3 : Kd.C (Kd.int .i64) w A0_3 l0_3.length l0_3) (hc0_3 : l0_3.length ≤ c0_3) (h : pdu_Check.f a0_0 a0_1 a0_2 l0_3 a0_4 a0_5 a0_6 = some r) :
 Calls Try.prog 29 #[.agg #[.int .i64 a0_0, .int .i64 a0_1, .int .i64 a0_2, .slice A0_3 l0_3.length c0_3, .int .i64 a0_4, .int .i64 a0_5, .int .i64 a0_6]] w fun e w' => e = .returned (.int .i64 r) ∧ Below w.heap.size w w' := by
 obtain rfl := Option.some.inj h
 rw [← chk_may]
 exact chk_c a0_0 a0_1 a0_2 A0_3 c0_3 l0_3 a0_4 a0_5 a0_6 w hr0_3
end Go.Proofs.Ytlalpooiegganaa.ExtM
end

section
namespace Go.Proofs.Ytlalpooiegganaa.PG
open Go.RowKit Go.Proofs.YtlalpooiegganaaW.PrintWords Go.Proofs.YtlalpooiegganaaW.PrintLast Go.Proofs.YtlalpooiegganaaW.PrintMore
attribute [local go_sem] max2_int min2_int max_two min_two max_three min_three max_four min_four   
set_option linter.unusedVariables false
set_option linter.unusedSimpArgs false
open Go.Proofs.Ytlalpooiegganaa.Ext Go.Proofs.Ytlalpooiegganaa.PP Go.Proofs.Ytlalpooiegganaa.ExtF Go.Proofs.Ytlalpooiegganaa.ExtM
def errW : Option Int → Value
 | none => .nilIface
 | some c => .iface 0 (.int .i64 c)
theorem errW_none : errW none = .nilIface := rfl
theorem errW_some (c : Int) : errW (some c) = .iface 0 (.int .i64 c) := rfl
theorem info3 : (Try.prog.info? 3).map (fun i => (i.zero, i.size, i.bytes)) = some (some (.int .i64 0), 1, 8) := by kernel_rfl
theorem info5 : (Try.prog.info? 5).map (fun i => (i.zero, i.size, i.bytes)) = some (some (.int .u8 0), 1, 1) := by kernel_rfl
end Go.Proofs.Ytlalpooiegganaa.PG
end

section
namespace Go.Proofs.Ytlalpooiegganaa.PG
open Go.RowKit Go.Proofs.YtlalpooiegganaaW.PrintWords Go.Proofs.YtlalpooiegganaaW.PrintLast Go.Proofs.YtlalpooiegganaaW.PrintMore
attribute [local go_sem] max2_int min2_int max_two min_two max_three min_three max_four min_four   
set_option linter.unusedVariables false
set_option linter.unusedSimpArgs false
open Go.Proofs.Ytlalpooiegganaa.Ext Go.Proofs.Ytlalpooiegganaa.PP Go.Proofs.Ytlalpooiegganaa.ExtF Go.Proofs.Ytlalpooiegganaa.ExtM
def wire_Unpack.l0 : Nat → List Int → List Int → Int → Int → Option (List Int × Int)
 | 0, _, _, _, _ => none
 | k + 1, x0, x6, x20, x21 => if x21 < x20 then (if 0 ≤ (wrap64 (Int.tdiv x21 8)) then (if (wrap64 (Int.tdiv x21 8)) < (x0.length : Int) then (if 0 ≤ (Int.tmod x21 8) then (if 0 ≤ x21 then (if x21 < (x6.length : Int) then (wire_Unpack.l0 k x0 (x6.set (x21 : Int).toNat (Go.bits .and .i64 (wrap64 (shr .u8 (rd x0 (wrap64 (Int.tdiv x21 8))) (Int.tmod x21 8))) 1)) x20 (wrap64 (x21 + 1))) else (none)) else (none)) else (none)) else (none)) else (none)) else (some (x6, 0))
def wire_Unpack.f (k : Nat) (l0 : List Int) (a1 : Int) : Option (List Int × Int) := if a1 < 0 then (some (([] : List Int), 1)) else (if a1 > (wrap64 (8 * (l0.length : Int))) then (some (([] : List Int), 7)) else (if 0 ≤ a1 then (if (a1 : Int).toNat ≤ 35184372088832 then ((some (List.replicate (a1 : Int).toNat 0 : List Int)).bind fun y106 => (wire_Unpack.l0 k l0 y106 (y106.length : Int) 0)) else (none)) else (none)))
theorem wire_Unpack.mono_l : ∀ k, (∀ y0 y1 y2 y3, LeO (wire_Unpack.l0 k y0 y1 y2 y3) (wire_Unpack.l0 (k + 1) y0 y1 y2 y3))
 | 0 => fun _ _ _ _ r h => by simp [wire_Unpack.l0] at h
 | k + 1 => by
  have ih0 := wire_Unpack.mono_l k
  ·intro y0 y1 y2 y3
   unfold wire_Unpack.l0
   repeat' first
   | (with_reducible exact ih0 _ _ _ _)
   | (with_reducible exact LeO.refl _)
   | (with_reducible exact LeO.none _)
   | (with_reducible refine LeO.ite ?_ ?_)
   | (with_reducible refine LeO.bind ?_ (fun _ => ?_))
   | exact ih0 _ _ _ _
   | exact LeO.none _
   | refine LeO.ite ?_ ?_
   | refine LeO.bind ?_ (fun _ => ?_)
theorem wire_Unpack.mono : ∀ a0 a1 k, LeO (wire_Unpack.f k a0 a1) (wire_Unpack.f (k + 1) a0 a1) := by
 intro a0 a1 k
 have ih0 := wire_Unpack.mono_l k
 unfold wire_Unpack.f
 repeat' first
  | (with_reducible exact ih0 _ _ _ _)
  | (with_reducible exact LeO.refl _)
  | (with_reducible exact LeO.none _)
  | (with_reducible refine LeO.ite ?_ ?_)
  | (with_reducible refine LeO.bind ?_ (fun _ => ?_))
  | exact ih0 _ _ _ _
  | exact LeO.none _
  | refine LeO.ite ?_ ?_
  | refine LeO.bind ?_ (fun _ => ?_)
set_option maxHeartbeats 8000000 in
set_option maxRecDepth 100000 in
theorem wire_Unpack.calls (k : Nat) (A0 : Option Addr) (c0 : Nat) (l0 : List Int) (a1 : Int) (r1 : List Int) (r2 : Int) (w : World) (hr0 : Kd.C (Kd.int .u8) w A0 l0.length l0) (hc0 : l0.length ≤ c0) (h : wire_Unpack.f k l0 a1 = some (r1, r2)) :
 Calls Try.prog 48 #[.slice A0 l0.length c0, .int .i64 a1] w fun e w' => ∃ v0_ : Value, e = .returned (.tuple #[v0_, .int .i64 r2]) ∧ Kd.R (Kd.int .i64) 3 w' w.heap.size (fun _ => True) v0_ r1 ∧ Below w.heap.size w w' := by
 have HR0 := Aside0.mk hr0
 have HC0 := Aside0.mk hc0
 clear hr0 hc0
 have HB := Aside0.mk (Below.refl w.heap.size w)
 have H : (if a1 < 0 then (some (([] : List Int), 1)) else (if a1 > (wrap64 (8 * (l0.length : Int))) then (some (([] : List Int), 7)) else (if 0 ≤ a1 then (if (a1 : Int).toNat ≤ 35184372088832 then ((some (List.replicate (a1 : Int).toNat 0 : List Int)).bind fun y106 => (wire_Unpack.l0 k l0 y106 (y106.length : Int) 0)) else (none)) else (none)))) = some (r1, r2) := h
 clear h
 by_cases c3 : a1 < 0
 ·rw [if_pos c3] at H
  have c3b0 : decide (a1 < 0) = true := decide_eq_true c3
  clear c3
  simp only [Option.some.injEq, Prod.mk.injEq] at H
  obtain ⟨rfl, rfl⟩ := H
  go_enter Try.func48, Try.ntmps48
  go_wp2
  go_ret2
  exact ⟨_, er_, by first | exact Kd.R_nil _ _ _ _ _ | exact Kd.N_nil _ _ _ _ _ | exact Kd.V_nil _ _ _ _ _ | exact Kd.Q_nil _ _ _ _ _ | exact Kd.S_nil _ _ _ _ _, bl0_ HB⟩
 ·rw [if_neg c3] at H
  have c3b0 : decide (a1 < 0) = false := decide_eq_false c3
  clear c3
  by_cases c4 : a1 > (wrap64 (8 * (l0.length : Int)))
  ·rw [if_pos c4] at H
   have c4b0 : decide ((wrap64 (8 * (l0.length : Int))) < a1) = true := decide_eq_true c4
   clear c4
   simp only [Option.some.injEq, Prod.mk.injEq] at H
   obtain ⟨rfl, rfl⟩ := H
   go_enter Try.func48, Try.ntmps48
   go_wp2
   go_ret2
   exact ⟨_, er_, by first | exact Kd.R_nil _ _ _ _ _ | exact Kd.N_nil _ _ _ _ _ | exact Kd.V_nil _ _ _ _ _ | exact Kd.Q_nil _ _ _ _ _ | exact Kd.S_nil _ _ _ _ _, bl0_ HB⟩
  ·rw [if_neg c4] at H
   have c4b0 : decide ((wrap64 (8 * (l0.length : Int))) < a1) = false := decide_eq_false c4
   clear c4
   by_cases c5 : 0 ≤ a1
   ·rw [if_pos c5] at H
    have c5b0 := eq_true c5
    have c5b1 : decide (0 ≤ a1) = true := decide_eq_true c5
    clear c5
    by_cases c6 : (a1 : Int).toNat ≤ 35184372088832
    ·rw [if_pos c6] at H
     have c6b0 := eq_true c6
     have c6b1 : decide ((a1 : Int).toNat ≤ 35184372088832) = true := decide_eq_true c6
     clear c6
     obtain ⟨y106, hy106⟩ : ∃ y_ : List Int, y_ = (List.replicate (a1 : Int).toNat 0) := ⟨_, rfl⟩
     replace H : (wire_Unpack.l0 k l0 y106 (y106.length : Int) 0) = some (r1, r2) := by first | (rw [hy106]; with_reducible exact H) | (have H2_ := (Option.bind_some _ _).symm.trans H; rw [hy106]; with_reducible exact H2_) | (have H2_ := (Option.bind_some _ _).symm.trans H; with_reducible exact H2_) | with_reducible exact H | (rw [hy106]; exact H) | exact H
     have Ny106 := Aside0.mk hy106
     clear hy106
     have H' := Aside0.mk H
     clear H
     go_enter Try.func48, Try.ntmps48
     go_wp2_with (first | ((with_reducible refine gate_dst (N := 18) rfl ?_); refine Kd.R_make (Kd.int .i64) _ 3 rfl (N := 18) rfl 29 _ _ rfl a1 rfl rfl Try.underlying29 (.int .i64 0) 8 info3 rfl (by decide) (by omega) 0 (ok := fun _ => True) (okp := fun _ => True) rfl (fun _ hk => hk) trivial (of_decide_eq_true (by first | (with_reducible assumption) | assumption)) (Nat.le_trans (Nat.mul_le_mul_right _ (of_decide_eq_true (by first | (with_reducible assumption) | assumption) : a1.toNat ≤ 35184372088832)) (by omega)) (Below.refl _ _) (Nat.le_refl _) ?_; intro v107 w7 ho8 hb hg_ hnew_; clear hg_ hnew_; (first | rw [← Ny106.out] at ho8 | (simp only [Int.reduceToNat] at ho8; rw [← Ny106.out] at ho8)); have n0_ := Aside0.mk (Kd.R_lower ho8 (below_size (bl0_ HB))); have n1_ := Aside0.mk (below_step (bl0_ HB) hb); clear HB; have HO108 := n0_; have HB := n1_; clear n0_ n1_; clear hb ho8; obtain ⟨Ao9, co9, eo9⟩ := Kd.R_slice HO108.out; subst eo9))
     go_loopg [21] k (fun kq v21 w' => ∃ (x6_1 : List Int) (x21_1 : Int), v21 = .int .i64 x21_1 ∧ Aside0 (wire_Unpack.l0 kq l0 x6_1 (y106.length : Int) x21_1 = some (r1, r2)) ∧ Aside0 (kq ≤ k) ∧ Aside0 (Kd.R (Kd.int .i64) 3 w' w.heap.size (fun _ => True) (.slice Ao9 y106.length co9) x6_1) ∧ Aside0 (Below w.heap.size w w'))
     case atStart => exact ⟨(y106), (0), (by first | rfl | (simp; done) | (simp [*]; done)), H', ⟨Nat.le_refl _⟩, ⟨kr_ HO108⟩, ⟨bl0_ HB⟩⟩
     case round =>
      clear H'
      try clear p2
      try clear c3
      try clear c3b0
      try clear c4
      try clear c4b0
      try clear c5
      try clear c5b0
      try clear c5b1
      try clear c6
      try clear c6b0
      try clear c6b1
      try clear p6
      obtain ⟨x6_1, x21_1, rfl, HA, HK1, HO_6, HB⟩ := hrel
      have hl6_1 := (Kd.R_reads' HO_6.out).1
      rw [hl6_1] at HO_6
      (try simp only [hl6_1])
      cases gk with
      | zero => exact absurd HA.out (by simp [wire_Unpack.l0])
      | succ k1 =>
       have H := HA.out
       clear HA
       simp only [wire_Unpack.l0] at H
       by_cases c10 : x21_1 < (y106.length : Int)
       ·rw [if_pos c10] at H
        have c10b0 : decide (x21_1 < (y106.length : Int)) = true := decide_eq_true c10
        clear c10
        obtain ⟨ji11, hji11⟩ : ∃ j_ : Int, (wrap64 (Int.tdiv x21_1 8)) = j_ := ⟨_, rfl⟩
        replace H : (if 0 ≤ (ji11) then (if (ji11) < (l0.length : Int) then (if 0 ≤ (Int.tmod x21_1 8) then (if 0 ≤ x21_1 then (if x21_1 < (x6_1.length : Int) then (wire_Unpack.l0 k1 l0 (x6_1.set (x21_1 : Int).toNat (Go.bits .and .i64 (wrap64 (shr .u8 (rd l0 (ji11)) (Int.tmod x21_1 8))) 1)) (y106.length : Int) (wrap64 (x21_1 + 1))) else (none)) else (none)) else (none)) else (none)) else (none)) = some (r1, r2) := by first | (rw [hji11] at H; exact H) | (simp only [hji11] at H ⊢; exact H)
        have hji11w : (IntKind.i64.wrap (Int.tdiv x21_1 8)) = ji11 := (i64_w _).trans hji11
        by_cases c12 : 0 ≤ (ji11)
        ·rw [if_pos c12] at H
         have c12b0 : decide (0 ≤ (ji11)) = true := decide_eq_true c12
         clear c12
         by_cases c13 : (ji11) < (l0.length : Int)
         ·rw [if_pos c13] at H
          have c13b0 : decide ((ji11) < (l0.length : Int)) = true := decide_eq_true c13
          clear c13
          obtain ⟨ji14, hji14⟩ : ∃ j_ : Int, (Int.tmod x21_1 8) = j_ := ⟨_, rfl⟩
          replace H : (if 0 ≤ (ji14) then (if 0 ≤ x21_1 then (if x21_1 < (x6_1.length : Int) then (wire_Unpack.l0 k1 l0 (x6_1.set (x21_1 : Int).toNat (Go.bits .and .i64 (wrap64 (shr .u8 (rd l0 (ji11)) (ji14))) 1)) (y106.length : Int) (wrap64 (x21_1 + 1))) else (none)) else (none)) else (none)) = some (r1, r2) := by first | (rw [hji14] at H; exact H) | (simp only [hji14] at H ⊢; exact H)
          by_cases c15 : 0 ≤ (ji14)
          ·rw [if_pos c15] at H
           have c15b0 := eq_true c15
           have c15b1 : decide (0 ≤ (ji14)) = true := decide_eq_true c15
           clear c15
           obtain ⟨ji16, hji16⟩ : ∃ j_ : Int, (shr .u8 (rd l0 (ji11)) (ji14)) = j_ := ⟨_, rfl⟩
           replace H : (if 0 ≤ x21_1 then (if x21_1 < (x6_1.length : Int) then (wire_Unpack.l0 k1 l0 (x6_1.set (x21_1 : Int).toNat (Go.bits .and .i64 (wrap64 (ji16)) 1)) (y106.length : Int) (wrap64 (x21_1 + 1))) else (none)) else (none)) = some (r1, r2) := by first | (rw [hji16] at H; exact H) | (simp only [hji16] at H ⊢; exact H)
           have hji16_ : ((rd l0 (ji11)) / 2 ^ min (ji14).toNat 8) = ji16 := hji16
           have hji16z : (ji14) ≤ 8 → ((rd l0 (ji11)) / 2 ^ (ji14).toNat) = ji16 := shr_small hji16
           by_cases c17 : 0 ≤ x21_1
           ·rw [if_pos c17] at H
            have c17b0 : decide (0 ≤ x21_1) = true := decide_eq_true c17
            clear c17
            by_cases c18 : x21_1 < (x6_1.length : Int)
            ·rw [if_pos c18] at H
             have c18b0 : decide (x21_1 < (x6_1.length : Int)) = true := decide_eq_true c18
             clear c18
             obtain ⟨y110, hy110⟩ : ∃ y_ : List Int, y_ = (x6_1.set (x21_1 : Int).toNat (Go.bits .and .i64 (wrap64 (ji16)) 1)) := ⟨_, rfl⟩
             replace H : (wire_Unpack.l0 k1 l0 y110 (y106.length : Int) (wrap64 (x21_1 + 1))) = some (r1, r2) := by first | (rw [hy110]; with_reducible exact H) | (have H2_ := (Option.bind_some _ _).symm.trans H; rw [hy110]; with_reducible exact H2_) | (have H2_ := (Option.bind_some _ _).symm.trans H; with_reducible exact H2_) | with_reducible exact H | (rw [hy110]; exact H) | exact H
             have Ny110 := Aside0.mk hy110
             clear hy110
             have H' := Aside0.mk H
             clear H
             have p109 : 0 ≤ ((ji11) : Int) := of_decide_eq_true (by first | (with_reducible assumption) | assumption)
             have q109 : (ji11) < (l0.length : Int) := of_decide_eq_true (by first | (with_reducible assumption) | assumption)
             obtain ⟨ad109, e109, hx109_0⟩ := Kd.at_int HR0.out (ji11) p109 q109
             cases e109
             replace hx109_0 := (HB.out.cell (World.block_lt_of_cell? w _ hx109_0)).trans hx109_0
             replace p109 := eq_true p109
             replace q109 := eq_true q109
             have p19 : 0 ≤ (x21_1 : Int) := of_decide_eq_true (by first | (with_reducible assumption) | assumption)
             have q19 : (x21_1 : Int) < ((x6_1.length : Int) : Int) := of_decide_eq_true (by first | (with_reducible assumption) | assumption)
             obtain ⟨go19, co19, eo19, gb19, gl19, cl19, HG19⟩ := Kd.R_form HO_6.out (by omega)
             (first | cases eo19 | (injection eo19 with ea_ en_ ec_; (first | subst ea_ | (injection ea_ with ea_; subst ea_)); subst ec_; clear en_))
             have GB19 := Aside0.mk gb19
             have GG19 := Aside0.mk HG19
             clear gb19 gl19 HG19
             obtain ⟨hx19_0, hf19_0⟩ := Kd.R_celln 0 HO_6.out (x21_1 : Int) p19 q19
             replace p19 := eq_true p19
             replace q19 := eq_true q19
             have HP20 := Kd.R_putg HO_6.out (x21_1 : Int) (Go.bits .and .i64 (wrap64 (ji16)) 1)
             go_wp2_with (first | ((with_reducible refine gate_store (t := 3) (p := 36) rfl ?_); refine store_event (t := 3) (p := 36) (v := ?vo_w21) (w1 := (wr.setCell ⟨go19, (x21_1 : Int).toNat, none⟩ (.int .i64 (Go.bits .and .i64 (wrap64 (ji16)) 1)))) ?hg ?ho ?hn ?hr ?_; (case ho => rfl); (case hg => rfl); (case hn => rfl); (case hr => first | (go_simp; done) | (go_simp; rfl)); intro w21 hw; have hg : wr.grownBy w21 (some go19) := (by rw [hw]; exact HP20.2); have hp_ : Kd.R (Kd.int .i64) 3 w21 w.heap.size (fun _ => True) (.slice (some ⟨go19, 0, none⟩) x6_1.length co9) y110 := (by rw [hw, Ny110.out]; exact HP20.1); clear HP20; have n0_ := Aside0.mk (hp_); have n1_ := Aside0.mk ((by rw [hw]; exact below_set (HB.out) GB19.out : Below w.heap.size w w21)); clear HO_6; clear HB; have HO_6 := n0_; have HB := n1_; clear n0_ n1_; clear hg hw hp_))
             (try simp only [← hl6_1])
             go_roundg k1
             case measure => have := HK1.out; omega
             case rel => exact ⟨(y110), (wrap64 (x21_1 + 1)), (by first | rfl | (simp; done) | (simp [*]; done)), H', ⟨by have := HK1.out; omega⟩, ⟨by (try simp only [hl6_1]); (with_reducible repeat (first | apply Kd.R_alloc | apply Kd.R_drewN | apply Kd.R_drew)); exact HO_6.out⟩, ⟨bl0_ HB⟩⟩
            ·rw [if_neg c18] at H
             exact absurd H (by simp)
           ·rw [if_neg c17] at H
            exact absurd H (by simp)
          ·rw [if_neg c15] at H
           exact absurd H (by simp)
         ·rw [if_neg c13] at H
          exact absurd H (by simp)
        ·rw [if_neg c12] at H
         exact absurd H (by simp)
       ·rw [if_neg c10] at H
        have c10b0 : decide (x21_1 < (y106.length : Int)) = false := decide_eq_false c10
        have c10b1 : decide (x21_1 < (x6_1.length : Int)) = false := by rw [← hl6_1]; exact c10b0
        clear c10
        simp only [Option.some.injEq, Prod.mk.injEq] at H
        obtain ⟨rfl, rfl⟩ := H
        go_wp2
        go_ret2
        exact ⟨_, er_, kr_ HO_6, bl0_ HB⟩
    ·rw [if_neg c6] at H
     exact absurd H (by simp)
   ·rw [if_neg c5] at H
    exact absurd H (by simp)
end Go.Proofs.Ytlalpooiegganaa.PG
end

section
namespace Go.Proofs.Ytlalpooiegganaa.PG
open Go.RowKit Go.Proofs.YtlalpooiegganaaW.PrintWords Go.Proofs.YtlalpooiegganaaW.PrintLast Go.Proofs.YtlalpooiegganaaW.PrintMore
attribute [local go_sem] max2_int min2_int max_two min_two max_three min_three max_four min_four   
set_option linter.unusedVariables false
set_option linter.unusedSimpArgs false
open Go.Proofs.Ytlalpooiegganaa.Ext Go.Proofs.Ytlalpooiegganaa.PP Go.Proofs.Ytlalpooiegganaa.ExtF Go.Proofs.Ytlalpooiegganaa.ExtM
def wire_At.f (l0 : List Int) (a1 : Int) : Option (Int × Int) := if a1 < 0 then (some (0, 1)) else (if a1 > (wrap64 ((l0.length : Int) - 2)) then (some (0, 7)) else (if 0 ≤ a1 then (if a1 < (l0.length : Int) then (if 0 ≤ (wrap64 (a1 + 1)) then (if (wrap64 (a1 + 1)) < (l0.length : Int) then (some (Go.bits .or .i64 (wrap64 ((wrap64 (rd l0 a1)) * 256)) (wrap64 (rd l0 (wrap64 (a1 + 1)))), 0)) else (none)) else (none)) else (none)) else (none)))
set_option maxHeartbeats 8000000 in
set_option maxRecDepth 100000 in
theorem wire_At.calls (A0 : Option Addr) (c0 : Nat) (l0 : List Int) (a1 : Int) (r1 : Int) (r2 : Int) (w : World) (hr0 : Kd.C (Kd.int .u8) w A0 l0.length l0) (hc0 : l0.length ≤ c0) (h : wire_At.f l0 a1 = some (r1, r2)) :
 Calls Try.prog 59 #[.slice A0 l0.length c0, .int .i64 a1] w fun e w' => e = .returned (.tuple #[.int .i64 r1, .int .i64 r2]) ∧ Drawn0 w w' := by
 have HR0 := Aside0.mk hr0
 have HC0 := Aside0.mk hc0
 clear hr0 hc0
 have H : (if a1 < 0 then (some (0, 1)) else (if a1 > (wrap64 ((l0.length : Int) - 2)) then (some (0, 7)) else (if 0 ≤ a1 then (if a1 < (l0.length : Int) then (if 0 ≤ (wrap64 (a1 + 1)) then (if (wrap64 (a1 + 1)) < (l0.length : Int) then (some (Go.bits .or .i64 (wrap64 ((wrap64 (rd l0 a1)) * 256)) (wrap64 (rd l0 (wrap64 (a1 + 1)))), 0)) else (none)) else (none)) else (none)) else (none)))) = some (r1, r2) := h
 clear h
 by_cases c3 : a1 < 0
 ·rw [if_pos c3] at H
  have c3b0 : decide (a1 < 0) = true := decide_eq_true c3
  clear c3
  simp only [Option.some.injEq, Prod.mk.injEq] at H
  obtain ⟨rfl, rfl⟩ := H
  go_enter Try.func59, Try.ntmps59
  go_wp2
  repeat (go_quiet (fail); try go_wp2)
  go_ret2
  exact ⟨by first | rfl | (simp; done) | (simp [*]; done), by repeat (first | exact Drawn0.refl _ | apply Drawn0.step)⟩
 ·rw [if_neg c3] at H
  have c3b0 : decide (a1 < 0) = false := decide_eq_false c3
  clear c3
  by_cases c4 : a1 > (wrap64 ((l0.length : Int) - 2))
  ·rw [if_pos c4] at H
   have c4b0 : decide ((wrap64 ((l0.length : Int) - 2)) < a1) = true := decide_eq_true c4
   clear c4
   simp only [Option.some.injEq, Prod.mk.injEq] at H
   obtain ⟨rfl, rfl⟩ := H
   go_enter Try.func59, Try.ntmps59
   go_wp2
   repeat (go_quiet (fail); try go_wp2)
   go_ret2
   exact ⟨by first | rfl | (simp; done) | (simp [*]; done), by repeat (first | exact Drawn0.refl _ | apply Drawn0.step)⟩
  ·rw [if_neg c4] at H
   have c4b0 : decide ((wrap64 ((l0.length : Int) - 2)) < a1) = false := decide_eq_false c4
   clear c4
   by_cases c5 : 0 ≤ a1
   ·rw [if_pos c5] at H
    have c5b0 : decide (0 ≤ a1) = true := decide_eq_true c5
    clear c5
    by_cases c6 : a1 < (l0.length : Int)
    ·rw [if_pos c6] at H
     have c6b0 : decide (a1 < (l0.length : Int)) = true := decide_eq_true c6
     clear c6
     obtain ⟨ji7, hji7⟩ : ∃ j_ : Int, (wrap64 (a1 + 1)) = j_ := ⟨_, rfl⟩
     replace H : (if 0 ≤ (ji7) then (if (ji7) < (l0.length : Int) then (some (Go.bits .or .i64 (wrap64 ((wrap64 (rd l0 a1)) * 256)) (wrap64 (rd l0 (ji7))), 0)) else (none)) else (none)) = some (r1, r2) := by first | (rw [hji7] at H; exact H) | (simp only [hji7] at H ⊢; exact H)
     have hji7w : (IntKind.i64.wrap (a1 + 1)) = ji7 := (i64_w _).trans hji7
     by_cases c8 : 0 ≤ (ji7)
     ·rw [if_pos c8] at H
      have c8b0 : decide (0 ≤ (ji7)) = true := decide_eq_true c8
      clear c8
      by_cases c9 : (ji7) < (l0.length : Int)
      ·rw [if_pos c9] at H
       have c9b0 : decide ((ji7) < (l0.length : Int)) = true := decide_eq_true c9
       clear c9
       simp only [Option.some.injEq, Prod.mk.injEq] at H
       obtain ⟨rfl, rfl⟩ := H
       have p111 : 0 ≤ (a1 : Int) := of_decide_eq_true (by first | (with_reducible assumption) | assumption)
       have q111 : a1 < (l0.length : Int) := of_decide_eq_true (by first | (with_reducible assumption) | assumption)
       obtain ⟨ad111, e111, hx111_0⟩ := Kd.at_int HR0.out a1 p111 q111
       cases e111
       replace p111 := eq_true p111
       replace q111 := eq_true q111
       have p112 : 0 ≤ ((ji7) : Int) := of_decide_eq_true (by first | (with_reducible assumption) | assumption)
       have q112 : (ji7) < (l0.length : Int) := of_decide_eq_true (by first | (with_reducible assumption) | assumption)
       obtain ⟨ad112, e112, hx112_0⟩ := Kd.at_int HR0.out (ji7) p112 q112
       obtain rfl : ad111 = ad112 := (by injection e112)
       replace p112 := eq_true p112
       replace q112 := eq_true q112
       go_enter Try.func59, Try.ntmps59
       go_wp2
       repeat (go_quiet (fail); try go_wp2)
       go_ret2
       exact ⟨by first | rfl | (simp; done) | (simp only [← hji7] <;> (first | rfl | simp)) | (simp [*]; done), by repeat (first | exact Drawn0.refl _ | apply Drawn0.step)⟩
      ·rw [if_neg c9] at H
       exact absurd H (by simp)
     ·rw [if_neg c8] at H
      exact absurd H (by simp)
    ·rw [if_neg c6] at H
     exact absurd H (by simp)
   ·rw [if_neg c5] at H
    exact absurd H (by simp)
end Go.Proofs.Ytlalpooiegganaa.PG
end

section
namespace Go.Proofs.Ytlalpooiegganaa.PG
open Go.RowKit Go.Proofs.YtlalpooiegganaaW.PrintWords Go.Proofs.YtlalpooiegganaaW.PrintLast Go.Proofs.YtlalpooiegganaaW.PrintMore
attribute [local go_sem] max2_int min2_int max_two min_two max_three min_three max_four min_four   
set_option linter.unusedVariables false
set_option linter.unusedSimpArgs false
open Go.Proofs.Ytlalpooiegganaa.Ext Go.Proofs.Ytlalpooiegganaa.PP Go.Proofs.Ytlalpooiegganaa.ExtF Go.Proofs.Ytlalpooiegganaa.ExtM
def pdu_words.l0 : Nat → List Int → List Int → Int → Option (List Int)
 | 0, _, _, _ => none
 | k + 1, x0, x3, x4 => if (wrap64 (x4 + 1)) < (x0.length : Int) then ((wire_At.f x0 x4).bind fun bt113 => (if x3.length < 17592186044416 then (pdu_words.l0 k x0 (x3 ++ [bt113.1]) (wrap64 (x4 + 2))) else (none))) else (some x3)
def pdu_words.f (k : Nat) (l0 : List Int) : Option (List Int) := pdu_words.l0 k l0 ([] : List Int) 0
theorem pdu_words.mono_l : ∀ k, (∀ y0 y1 y2, LeO (pdu_words.l0 k y0 y1 y2) (pdu_words.l0 (k + 1) y0 y1 y2))
 | 0 => fun _ _ _ r h => by simp [pdu_words.l0] at h
 | k + 1 => by
  have ih0 := pdu_words.mono_l k
  ·intro y0 y1 y2
   unfold pdu_words.l0
   repeat' first
   | (with_reducible exact ih0 _ _ _)
   | (with_reducible exact LeO.refl _)
   | (with_reducible exact LeO.none _)
   | (with_reducible refine LeO.ite ?_ ?_)
   | (with_reducible refine LeO.bind ?_ (fun _ => ?_))
   | exact ih0 _ _ _
   | exact LeO.none _
   | refine LeO.ite ?_ ?_
   | refine LeO.bind ?_ (fun _ => ?_)
theorem pdu_words.mono : ∀ a0 k, LeO (pdu_words.f k a0) (pdu_words.f (k + 1) a0) := by
 intro a0 k
 have ih0 := pdu_words.mono_l k
 unfold pdu_words.f
 repeat' first
  | (with_reducible exact ih0 _ _ _)
  | (with_reducible exact LeO.refl _)
  | (with_reducible exact LeO.none _)
  | (with_reducible refine LeO.ite ?_ ?_)
  | (with_reducible refine LeO.bind ?_ (fun _ => ?_))
  | exact ih0 _ _ _
  | exact LeO.none _
  | refine LeO.ite ?_ ?_
  | refine LeO.bind ?_ (fun _ => ?_)
set_option maxHeartbeats 8000000 in
set_option maxRecDepth 100000 in
theorem pdu_words.calls (k : Nat) (A0 : Option Addr) (c0 : Nat) (l0 : List Int) (r : List Int) (w : World) (hr0 : Kd.C (Kd.int .u8) w A0 l0.length l0) (hc0 : l0.length ≤ c0) (h : pdu_words.f k l0 = some r) :
 Calls Try.prog 49 #[.slice A0 l0.length c0] w fun e w' => ∃ v0_ : Value, e = .returned (v0_) ∧ Kd.R (Kd.int .i64) 3 w' w.heap.size (fun _ => True) v0_ r ∧ Below w.heap.size w w' := by
 have HR0 := Aside0.mk hr0
 have HC0 := Aside0.mk hc0
 clear hr0 hc0
 have HB := Aside0.mk (Below.refl w.heap.size w)
 have H : (pdu_words.l0 k l0 ([] : List Int) 0) = some r := h
 clear h
 have H' := Aside0.mk H
 clear H
 go_enter Try.func49, Try.ntmps49
 go_wp2
 go_loopg [3, 4] k (fun kq v3 v4 w' => ∃ (x3_1 : List Int) (x4_1 : Int), v4 = .int .i64 x4_1 ∧ Aside0 (pdu_words.l0 kq l0 x3_1 x4_1 = some r) ∧ Aside0 (kq ≤ k) ∧ Aside0 (Kd.R (Kd.int .i64) 3 w' w.heap.size (fun _ => True) v3 x3_1) ∧ Aside0 (Below w.heap.size w w'))
 case atStart => exact ⟨(([] : List Int)), (0), (by first | rfl | (simp; done) | (simp [*]; done)), H', ⟨Nat.le_refl _⟩, ⟨by first | exact Kd.R_nil _ _ _ _ _ | exact Kd.N_nil _ _ _ _ _ | exact Kd.V_nil _ _ _ _ _ | exact Kd.Q_nil _ _ _ _ _ | exact Kd.S_nil _ _ _ _ _⟩, ⟨bl0_ HB⟩⟩
 case round =>
  clear H'
  obtain ⟨x3_1, x4_1, rfl, HA, HK1, HO_3, HB⟩ := hrel
  cases gk with
  | zero => exact absurd HA.out (by simp [pdu_words.l0])
  | succ k1 =>
   have H := HA.out
   clear HA
   simp only [pdu_words.l0] at H
   by_cases c2 : (wrap64 (x4_1 + 1)) < (l0.length : Int)
   ·rw [if_pos c2] at H
    have c2b0 : decide ((wrap64 (x4_1 + 1)) < (l0.length : Int)) = true := decide_eq_true c2
    clear c2
    replace H := Option.bind_eq_some_iff.mp H
    obtain ⟨⟨t113, t114⟩, A30, H⟩ := H
    replace H : (if x3_1.length < 17592186044416 then (pdu_words.l0 k1 l0 (x3_1 ++ [t113]) (wrap64 (x4_1 + 2))) else (none)) = some r := H
    have A3 := Aside0.mk A30
    clear A30
    by_cases c4 : x3_1.length < 17592186044416
    ·rw [if_pos c4] at H
     have LMc4 := Aside0.mk c4
     clear c4
     obtain ⟨y115, hy115⟩ : ∃ y_ : List Int, y_ = (x3_1 ++ [t113]) := ⟨_, rfl⟩
     replace H : (pdu_words.l0 k1 l0 y115 (wrap64 (x4_1 + 2))) = some r := by first | (rw [hy115]; with_reducible exact H) | (have H2_ := (Option.bind_some _ _).symm.trans H; rw [hy115]; with_reducible exact H2_) | (have H2_ := (Option.bind_some _ _).symm.trans H; with_reducible exact H2_) | with_reducible exact H | (rw [hy115]; exact H) | exact H
     have Ny115 := Aside0.mk hy115
     clear hy115
     have H' := Aside0.mk H
     clear H
     go_wp2_with (first | ((with_reducible refine gate_callee (f := 59) rfl ?_); refine goesL_ (some 17) rfl rfl Try.func59 (by kernel_rfl) rfl #[.slice A0 l0.length c0, .int .i64 x4_1] rfl ar_ ?_; (with_reducible refine (wire_At.calls _ _ l0 x4_1 t113 t114 _ ?side1 ?side2 A3.out).mono ?_); (case side1 => exact sc_ (Kd.C_below HR0.out HB.out)); (case side2 => exact HC0.out); rintro e w' ⟨rfl, ⟨nd, rfl⟩⟩; refine ⟨_, rfl, ?_⟩) | ((with_reducible refine gate_builtin (b := .append) (xs := #[.tmp 20, .tmp 22]) rfl ?_); at_builtin; refine Kd.R_append (Kd.int .i64) (w0 := w) w.heap.size rfl (.tmp 20) (.tmp 22) 29 3 (.int .i64 0) 8 rfl Try.underlying29 info3 rfl (by decide) (by omega) u3 x3_1 t113 [.int .i64 t113] (fun _ => True) (fun _ => False) rfl rfl ?aP (fun _ hk => hk.elim) ?aF ?aO ?aB ?aS ?aL ?_; (case aP => exact rfl); (case aB => exact (bl0_ HB)); (case aF => exact (fun _ _ => trivial)); (case aO => exact (kr_ HO_3)); (case aS => exact (below_size (bl0_ HB))); (case aL => have := LMc4.out; omega); intro v116 w5 ho hb hg hat; rw [← Ny115.out] at ho; have n0_ := Aside0.mk (hb); have n1_ := Aside0.mk (ho); clear HB; clear HO_3; have HB := n0_; have HO117 := n1_; clear n0_ n1_; clear ho hb hg hat))
     go_roundg k1
     case measure => have := HK1.out; omega
     case rel => exact ⟨(y115), (wrap64 (x4_1 + 2)), (by first | rfl | (simp; done) | (simp [*]; done)), H', ⟨by have := HK1.out; omega⟩, ⟨kr_ HO117⟩, ⟨bl0_ HB⟩⟩
    ·rw [if_neg c4] at H
     exact absurd H (by simp)
   ·rw [if_neg c2] at H
    have c2b0 : decide ((wrap64 (x4_1 + 1)) < (l0.length : Int)) = false := decide_eq_false c2
    clear c2
    obtain rfl := Option.some.inj H
    go_wp2
    go_ret
    exact ⟨_, er_, kr_ HO_3, bl0_ HB⟩
end Go.Proofs.Ytlalpooiegganaa.PG
end

section
namespace Go.Proofs.Ytlalpooiegganaa.PG
open Go.RowKit Go.Proofs.YtlalpooiegganaaW.PrintWords Go.Proofs.YtlalpooiegganaaW.PrintLast Go.Proofs.YtlalpooiegganaaW.PrintMore
attribute [local go_sem] max2_int min2_int max_two min_two max_three min_three max_four min_four   
set_option linter.unusedVariables false
set_option linter.unusedSimpArgs false
open Go.Proofs.Ytlalpooiegganaa.Ext Go.Proofs.Ytlalpooiegganaa.PP Go.Proofs.Ytlalpooiegganaa.ExtF Go.Proofs.Ytlalpooiegganaa.ExtM
def pdu_within.f (a0 : Int) (a1 : Int) (a2 : Int) : Option (Bool) := if a0 ≥ a1 then (some (decide (a0 ≤ a2))) else (some false)
set_option maxHeartbeats 8000000 in
set_option maxRecDepth 100000 in
theorem pdu_within.calls (a0 : Int) (a1 : Int) (a2 : Int) (r : Bool) (w : World) (h : pdu_within.f a0 a1 a2 = some r) :
 Calls Try.prog 43 #[.int .i64 a0, .int .i64 a1, .int .i64 a2] w fun e w' => e = .returned (.bool r) ∧ Drawn0 w w' := by
 have H : (if a0 ≥ a1 then (some (decide (a0 ≤ a2))) else (some false)) = some r := h
 clear h
 by_cases c4 : a0 ≥ a1
 ·rw [if_pos c4] at H
  have c4b0 : decide (a1 ≤ a0) = true := decide_eq_true c4
  clear c4
  obtain rfl := Option.some.inj H
  go_enter Try.func43, Try.ntmps43
  go_wp2
  go_ret
  exact ⟨by first | rfl | (simp; done) | (simp [*]; done), by repeat (first | exact Drawn0.refl _ | apply Drawn0.step)⟩
 ·rw [if_neg c4] at H
  have c4b0 : decide (a1 ≤ a0) = false := decide_eq_false c4
  clear c4
  obtain rfl := Option.some.inj H
  go_enter Try.func43, Try.ntmps43
  go_wp2
  go_ret
  exact ⟨by first | rfl | (simp; done) | (simp [*]; done), by repeat (first | exact Drawn0.refl _ | apply Drawn0.step)⟩
end Go.Proofs.Ytlalpooiegganaa.PG
end

section
namespace Go.Proofs.Ytlalpooiegganaa.PG
open Go.RowKit Go.Proofs.YtlalpooiegganaaW.PrintWords Go.Proofs.YtlalpooiegganaaW.PrintLast Go.Proofs.YtlalpooiegganaaW.PrintMore
attribute [local go_sem] max2_int min2_int max_two min_two max_three min_three max_four min_four   
set_option linter.unusedVariables false
set_option linter.unusedSimpArgs false
open Go.Proofs.Ytlalpooiegganaa.Ext Go.Proofs.Ytlalpooiegganaa.PP Go.Proofs.Ytlalpooiegganaa.ExtF Go.Proofs.Ytlalpooiegganaa.ExtM
def pdu_all.l0 : Nat → Int → List Int → Int → Int → Option (Bool)
 | 0, _, _, _, _ => none
 | k + 1, x1, x7, x8, x9 => if x9 < x8 then (if 0 ≤ x9 then (if x9 < (x7.length : Int) then ((pdu_within.f (rd x7 x9) 0 x1).bind fun t103 => (if t103 = true then (pdu_all.l0 k x1 x7 x8 (wrap64 (x9 + 1))) else (some false))) else (none)) else (none)) else (some true)
def pdu_all.f (k : Nat) (l0 : List Int) (a1 : Int) : Option (Bool) := pdu_all.l0 k a1 l0 (l0.length : Int) 0
theorem pdu_all.mono_l : ∀ k, (∀ y0 y1 y2 y3, LeO (pdu_all.l0 k y0 y1 y2 y3) (pdu_all.l0 (k + 1) y0 y1 y2 y3))
 | 0 => fun _ _ _ _ r h => by simp [pdu_all.l0] at h
 | k + 1 => by
  have ih0 := pdu_all.mono_l k
  ·intro y0 y1 y2 y3
   unfold pdu_all.l0
   repeat' first
   | (with_reducible exact ih0 _ _ _ _)
   | (with_reducible exact LeO.refl _)
   | (with_reducible exact LeO.none _)
   | (with_reducible refine LeO.ite ?_ ?_)
   | (with_reducible refine LeO.bind ?_ (fun _ => ?_))
   | exact ih0 _ _ _ _
   | exact LeO.none _
   | refine LeO.ite ?_ ?_
   | refine LeO.bind ?_ (fun _ => ?_)
theorem pdu_all.mono : ∀ a0 a1 k, LeO (pdu_all.f k a0 a1) (pdu_all.f (k + 1) a0 a1) := by
 intro a0 a1 k
 have ih0 := pdu_all.mono_l k
 unfold pdu_all.f
 repeat' first
  | (with_reducible exact ih0 _ _ _ _)
  | (with_reducible exact LeO.refl _)
  | (with_reducible exact LeO.none _)
  | (with_reducible refine LeO.ite ?_ ?_)
  | (with_reducible refine LeO.bind ?_ (fun _ => ?_))
  | exact ih0 _ _ _ _
  | exact LeO.none _
  | refine LeO.ite ?_ ?_
  | refine LeO.bind ?_ (fun _ => ?_)
set_option maxHeartbeats 8000000 in
set_option maxRecDepth 100000 in
theorem pdu_all.calls (k : Nat) (A0 : Option Addr) (c0 : Nat) (l0 : List Int) (a1 : Int) (r : Bool) (w : World) (hr0 : Kd.C (Kd.int .i64) w A0 l0.length l0) (hc0 : l0.length ≤ c0) (h : pdu_all.f k l0 a1 = some r) :
 Calls Try.prog 46 #[.slice A0 l0.length c0, .int .i64 a1] w fun e w' => e = .returned (.bool r) ∧ Drawn0 w w' := by
 have HR0 := Aside0.mk hr0
 have HC0 := Aside0.mk hc0
 clear hr0 hc0
 have H : (pdu_all.l0 k a1 l0 (l0.length : Int) 0) = some r := h
 clear h
 have H' := Aside0.mk H
 clear H
 go_enter Try.func46, Try.ntmps46
 go_wp2
 go_loopg [9] k (fun kq v9 w' => ∃ (x9_1 : Int), v9 = .int .i64 x9_1 ∧ Aside0 (pdu_all.l0 kq a1 l0 (l0.length : Int) x9_1 = some r) ∧ Aside0 (kq ≤ k) ∧ Drawn0 w w')
 case atStart => exact ⟨(0), (by first | rfl | (simp; done) | (simp [*]; done)), H', ⟨Nat.le_refl _⟩, by repeat (first | exact Drawn0.refl _ | apply Drawn0.step)⟩
 case round =>
  clear H'
  try clear p2
  obtain ⟨x9_1, rfl, HA, HK1, ⟨m1, rfl⟩⟩ := hrel
  cases gk with
  | zero => exact absurd HA.out (by simp [pdu_all.l0])
  | succ k1 =>
   have H := HA.out
   clear HA
   simp only [pdu_all.l0] at H
   by_cases c3 : x9_1 < (l0.length : Int)
   ·rw [if_pos c3] at H
    have c3b0 : decide (x9_1 < (l0.length : Int)) = true := decide_eq_true c3
    clear c3
    by_cases c4 : 0 ≤ x9_1
    ·rw [if_pos c4] at H
     have c4b0 : decide (0 ≤ x9_1) = true := decide_eq_true c4
     clear c4
     by_cases c5 : x9_1 < (l0.length : Int)
     ·rw [if_pos c5] at H
      have c5b0 : decide (x9_1 < (l0.length : Int)) = true := decide_eq_true c5
      clear c5
      replace H := Option.bind_eq_some_iff.mp H
      obtain ⟨t103, A60, H⟩ := H
      replace H : (if t103 = true then (pdu_all.l0 k1 a1 l0 (l0.length : Int) (wrap64 (x9_1 + 1))) else (some false)) = some r := H
      have A6 := Aside0.mk A60
      clear A60
      by_cases c7 : t103 = true
      ·subst c7
       have H1 : (pdu_all.l0 k1 a1 l0 (l0.length : Int) (wrap64 (x9_1 + 1))) = some r := by rw [if_pos rfl] at H; exact H
       clear H
       have H := H1
       clear H1
       have H' := Aside0.mk H
       clear H
       have p102 : 0 ≤ (x9_1 : Int) := of_decide_eq_true (by first | (with_reducible assumption) | assumption)
       have q102 : x9_1 < (l0.length : Int) := of_decide_eq_true (by first | (with_reducible assumption) | assumption)
       obtain ⟨ad102, e102, hx102_0⟩ := Kd.at_int HR0.out x9_1 p102 q102
       cases e102
       replace p102 := eq_true p102
       replace q102 := eq_true q102
       go_wp2_with (first | ((with_reducible refine gate_callee (f := 43) rfl ?_); refine goesL_ (some 15) rfl rfl Try.func43 (by kernel_rfl) rfl #[.int .i64 (rd l0 x9_1), .int .i64 0, .int .i64 a1] rfl ar_ ?_; (with_reducible refine (pdu_within.calls (rd l0 x9_1) 0 a1 true _ A6.out).mono ?_); rintro e w' ⟨rfl, ⟨nd, rfl⟩⟩; refine ⟨_, rfl, ?_⟩))
       go_roundg k1
       case measure => have := HK1.out; omega
       case rel => exact ⟨(wrap64 (x9_1 + 1)), (by first | rfl | (simp; done) | (simp [*]; done)), H', ⟨by have := HK1.out; omega⟩, by repeat (first | exact Drawn0.refl _ | apply Drawn0.step)⟩
      ·replace c7 := Bool.eq_false_iff.mpr c7
       subst c7
       have H1 : (some false) = some r := by rw [if_neg (show ¬ (false = true) by decide)] at H; exact H
       clear H
       have H := H1
       clear H1
       obtain rfl := Option.some.inj H
       have p102 : 0 ≤ (x9_1 : Int) := of_decide_eq_true (by first | (with_reducible assumption) | assumption)
       have q102 : x9_1 < (l0.length : Int) := of_decide_eq_true (by first | (with_reducible assumption) | assumption)
       obtain ⟨ad102, e102, hx102_0⟩ := Kd.at_int HR0.out x9_1 p102 q102
       cases e102
       replace p102 := eq_true p102
       replace q102 := eq_true q102
       go_wp2_with (first | ((with_reducible refine gate_callee (f := 43) rfl ?_); refine goesL_ (some 15) rfl rfl Try.func43 (by kernel_rfl) rfl #[.int .i64 (rd l0 x9_1), .int .i64 0, .int .i64 a1] rfl ar_ ?_; (with_reducible refine (pdu_within.calls (rd l0 x9_1) 0 a1 false _ A6.out).mono ?_); rintro e w' ⟨rfl, ⟨nd, rfl⟩⟩; refine ⟨_, rfl, ?_⟩))
       go_ret
       exact ⟨by first | rfl | (simp; done) | (simp [*]; done), by repeat (first | exact Drawn0.refl _ | apply Drawn0.step)⟩
     ·rw [if_neg c5] at H
      exact absurd H (by simp)
    ·rw [if_neg c4] at H
     exact absurd H (by simp)
   ·rw [if_neg c3] at H
    have c3b0 : decide (x9_1 < (l0.length : Int)) = false := decide_eq_false c3
    clear c3
    obtain rfl := Option.some.inj H
    go_wp2
    go_ret
    exact ⟨by first | rfl | (simp; done) | (simp [*]; done), by repeat (first | exact Drawn0.refl _ | apply Drawn0.step)⟩
end Go.Proofs.Ytlalpooiegganaa.PG
end

section
namespace Go.Proofs.Ytlalpooiegganaa.PG
open Go.RowKit Go.Proofs.YtlalpooiegganaaW.PrintWords Go.Proofs.YtlalpooiegganaaW.PrintLast Go.Proofs.YtlalpooiegganaaW.PrintMore
attribute [local go_sem] max2_int min2_int max_two min_two max_three min_three max_four min_four   
set_option linter.unusedVariables false
set_option linter.unusedSimpArgs false
open Go.Proofs.Ytlalpooiegganaa.Ext Go.Proofs.Ytlalpooiegganaa.PP Go.Proofs.Ytlalpooiegganaa.ExtF Go.Proofs.Ytlalpooiegganaa.ExtM
def pdu_some.f (k : Nat) (l0 : List Int) (a1 : Int) (a2 : Int) (a3 : Int) : Option (Bool) := (pdu_within.f (l0.length : Int) a1 a2).bind fun t104 => (if t104 = true then ((pdu_all.f k l0 a3).bind fun t105 => (some t105)) else (some false))
theorem pdu_some.mono : ∀ a0 a1 a2 a3 k, LeO (pdu_some.f k a0 a1 a2 a3) (pdu_some.f (k + 1) a0 a1 a2 a3) := by
 intro a0 a1 a2 a3 k
 unfold pdu_some.f
 repeat' first
  | (with_reducible exact pdu_all.mono _ _ _)
  | (with_reducible exact LeO.refl _)
  | (with_reducible exact LeO.none _)
  | (with_reducible refine LeO.ite ?_ ?_)
  | (with_reducible refine LeO.bind ?_ (fun _ => ?_))
  | exact pdu_all.mono _ _ _
  | exact LeO.none _
  | refine LeO.ite ?_ ?_
  | refine LeO.bind ?_ (fun _ => ?_)
set_option maxHeartbeats 8000000 in
set_option maxRecDepth 100000 in
theorem pdu_some.calls (k : Nat) (A0 : Option Addr) (c0 : Nat) (l0 : List Int) (a1 : Int) (a2 : Int) (a3 : Int) (r : Bool) (w : World) (hr0 : Kd.C (Kd.int .i64) w A0 l0.length l0) (hc0 : l0.length ≤ c0) (h : pdu_some.f k l0 a1 a2 a3 = some r) :
 Calls Try.prog 45 #[.slice A0 l0.length c0, .int .i64 a1, .int .i64 a2, .int .i64 a3] w fun e w' => e = .returned (.bool r) ∧ Drawn0 w w' := by
 have HR0 := Aside0.mk hr0
 have HC0 := Aside0.mk hc0
 clear hr0 hc0
 have H : ((pdu_within.f (l0.length : Int) a1 a2).bind fun t104 => (if t104 = true then ((pdu_all.f k l0 a3).bind fun t105 => (some t105)) else (some false))) = some r := h
 clear h
 replace H := Option.bind_eq_some_iff.mp H
 obtain ⟨t104, A50, H⟩ := H
 replace H : (if t104 = true then ((pdu_all.f k l0 a3).bind fun t105 => (some t105)) else (some false)) = some r := H
 have A5 := Aside0.mk A50
 clear A50
 by_cases c6 : t104 = true
 ·subst c6
  have H1 : ((pdu_all.f k l0 a3).bind fun t105 => (some t105)) = some r := by rw [if_pos rfl] at H; exact H
  clear H
  have H := H1
  clear H1
  replace H := Option.bind_eq_some_iff.mp H
  obtain ⟨t105, A70, H⟩ := H
  replace H : (some t105) = some r := H
  have A7 := Aside0.mk A70
  clear A70
  obtain rfl := Option.some.inj H
  go_enter Try.func45, Try.ntmps45
  go_wp2_with (first | ((with_reducible refine gate_callee (f := 43) rfl ?_); refine goesL_ (some 13) rfl rfl Try.func43 (by kernel_rfl) rfl #[.int .i64 (l0.length : Int), .int .i64 a1, .int .i64 a2] rfl ar_ ?_; (with_reducible refine (pdu_within.calls (l0.length : Int) a1 a2 true _ A5.out).mono ?_); rintro e w' ⟨rfl, ⟨nd, rfl⟩⟩; refine ⟨_, rfl, ?_⟩) | (go_at_call 46; (with_reducible refine (pdu_all.calls k _ _ l0 a3 t105 _ ?side1 ?side2 A7.out).mono ?_); (case side1 => repeat (first | exact HR0.out | (with_reducible refine Kd.C_alloc ?_ _) | (with_reducible refine Kd.C_drewN ?_ _) | (with_reducible refine Kd.C_drew ?_))); (case side2 => exact HC0.out); rintro e w' ⟨rfl, ⟨nd, rfl⟩⟩))
  go_ret
  exact ⟨by first | rfl | (simp; done) | (simp [*]; done), by repeat (first | exact Drawn0.refl _ | apply Drawn0.step)⟩
 ·replace c6 := Bool.eq_false_iff.mpr c6
  subst c6
  have H1 : (some false) = some r := by rw [if_neg (show ¬ (false = true) by decide)] at H; exact H
  clear H
  have H := H1
  clear H1
  obtain rfl := Option.some.inj H
  go_enter Try.func45, Try.ntmps45
  go_wp2_with (first | ((with_reducible refine gate_callee (f := 43) rfl ?_); refine goesL_ (some 13) rfl rfl Try.func43 (by kernel_rfl) rfl #[.int .i64 (l0.length : Int), .int .i64 a1, .int .i64 a2] rfl ar_ ?_; (with_reducible refine (pdu_within.calls (l0.length : Int) a1 a2 false _ A5.out).mono ?_); rintro e w' ⟨rfl, ⟨nd, rfl⟩⟩; refine ⟨_, rfl, ?_⟩))
  go_ret
  exact ⟨by first | rfl | (simp; done) | (simp [*]; done), by repeat (first | exact Drawn0.refl _ | apply Drawn0.step)⟩
end Go.Proofs.Ytlalpooiegganaa.PG
end

section
namespace Go.Proofs.Ytlalpooiegganaa.PG
open Go.RowKit Go.Proofs.YtlalpooiegganaaW.PrintWords Go.Proofs.YtlalpooiegganaaW.PrintLast Go.Proofs.YtlalpooiegganaaW.PrintMore
attribute [local go_sem] max2_int min2_int max_two min_two max_three min_three max_four min_four   
set_option linter.unusedVariables false
set_option linter.unusedSimpArgs false
open Go.Proofs.Ytlalpooiegganaa.Ext Go.Proofs.Ytlalpooiegganaa.PP Go.Proofs.Ytlalpooiegganaa.ExtF Go.Proofs.Ytlalpooiegganaa.ExtM
def pdu_answer.j0 : Nat → Int → Bool → Int → Int → Int → List Int → Int → Int → Int → List Int → Int → Option (Bool)
 | 0, _, _, _, _, _, _, _, _, _, _, _ => none
 | k + 1, x18, x19, x119000, x119001, x119002, x119003, x119004, x119005, x119006, x120000, x120001 => if x19 = true then ((pdu_some.f k x120000 x119002 x119002 1).bind fun t121 => (some t121)) else (if x18 = 3 then ((pdu_some.f k x120000 x119002 x119002 65535).bind fun t122 => (some t122)) else (if x18 = 4 then ((pdu_some.f k x120000 x119002 x119002 65535).bind fun t123 => (some t123)) else (if x18 = 23 then ((pdu_some.f k x120000 x119002 x119002 65535).bind fun t124 => (some t124)) else (some ((x120000.length : Int) == 0)))))
def pdu_answer.f (k : Nat) (a0_0 : Int) (a0_1 : Int) (a0_2 : Int) (l0_3 : List Int) (a0_4 : Int) (a0_5 : Int) (a0_6 : Int) (l1_0 : List Int) (a1_1 : Int) : Option (Bool) := if a1_1 = 0 then (if a0_0 = 1 then (pdu_answer.j0 k a0_0 (a0_0 == 1) a0_0 a0_1 a0_2 l0_3 a0_4 a0_5 a0_6 l1_0 a1_1) else (pdu_answer.j0 k a0_0 (a0_0 == 2) a0_0 a0_1 a0_2 l0_3 a0_4 a0_5 a0_6 l1_0 a1_1)) else ((pdu_within.f a1_1 1 255).bind fun t120 => (if t120 = true then (some ((l1_0.length : Int) == 0)) else (some false)))
theorem pdu_answer.mono_l : ∀ k, (∀ y0 y1 y2 y3 y4 y5 y6 y7 y8 y9 y10, LeO (pdu_answer.j0 k y0 y1 y2 y3 y4 y5 y6 y7 y8 y9 y10) (pdu_answer.j0 (k + 1) y0 y1 y2 y3 y4 y5 y6 y7 y8 y9 y10))
 | 0 => fun _ _ _ _ _ _ _ _ _ _ _ r h => by simp [pdu_answer.j0] at h
 | k + 1 => by
  have ih0 := pdu_answer.mono_l k
  ·intro y0 y1 y2 y3 y4 y5 y6 y7 y8 y9 y10
   unfold pdu_answer.j0
   repeat' first
   | (with_reducible exact ih0 _ _ _ _ _ _ _ _ _ _ _)
   | (with_reducible exact pdu_some.mono _ _ _ _ _)
   | (with_reducible exact LeO.refl _)
   | (with_reducible exact LeO.none _)
   | (with_reducible refine LeO.ite ?_ ?_)
   | (with_reducible refine LeO.bind ?_ (fun _ => ?_))
   | exact ih0 _ _ _ _ _ _ _ _ _ _ _
   | exact pdu_some.mono _ _ _ _ _
   | exact LeO.none _
   | refine LeO.ite ?_ ?_
   | refine LeO.bind ?_ (fun _ => ?_)
theorem pdu_answer.mono : ∀ a0 a1 a2 a3 a4 a5 a6 a7 a8 k, LeO (pdu_answer.f k a0 a1 a2 a3 a4 a5 a6 a7 a8) (pdu_answer.f (k + 1) a0 a1 a2 a3 a4 a5 a6 a7 a8) := by
 intro a0 a1 a2 a3 a4 a5 a6 a7 a8 k
 have ih0 := pdu_answer.mono_l k
 unfold pdu_answer.f
 repeat' first
  | (with_reducible exact ih0 _ _ _ _ _ _ _ _ _ _ _)
  | (with_reducible exact pdu_some.mono _ _ _ _ _)
  | (with_reducible exact LeO.refl _)
  | (with_reducible exact LeO.none _)
  | (with_reducible refine LeO.ite ?_ ?_)
  | (with_reducible refine LeO.bind ?_ (fun _ => ?_))
  | exact ih0 _ _ _ _ _ _ _ _ _ _ _
  | exact pdu_some.mono _ _ _ _ _
  | exact LeO.none _
  | refine LeO.ite ?_ ?_
  | refine LeO.bind ?_ (fun _ => ?_)
set_option maxHeartbeats 8000000 in
set_option maxRecDepth 100000 in
theorem pdu_answer.calls (k : Nat) (a0_0 : Int) (a0_1 : Int) (a0_2 : Int) (A0_3 : Option Addr) (c0_3 : Nat) (l0_3 : List Int) (a0_4 : Int) (a0_5 : Int) (a0_6 : Int) (A1_0 : Option Addr) (c1_0 : Nat) (l1_0 : List Int) (a1_1 : Int) (r : Bool) (w : World) (hr0_3 : Kd.C (Kd.int .i64) w A0_3 l0_3.length l0_3) (hc0_3 : l0_3.length ≤ c0_3) (hr1_0 : Kd.C (Kd.int .i64) w A1_0 l1_0.length l1_0) (hc1_0 : l1_0.length ≤ c1_0) (h : pdu_answer.f k a0_0 a0_1 a0_2 l0_3 a0_4 a0_5 a0_6 l1_0 a1_1 = some r) :
 Calls Try.prog 60 #[.agg #[.int .i64 a0_0, .int .i64 a0_1, .int .i64 a0_2, .slice A0_3 l0_3.length c0_3, .int .i64 a0_4, .int .i64 a0_5, .int .i64 a0_6], .agg #[.slice A1_0 l1_0.length c1_0, .int .i64 a1_1]] w fun e w' => e = .returned (.bool r) ∧ Below w.heap.size w w' := by
 have hu31 := Try.underlying31
 have hu46 := Try.underlying46
 have HR0_3 := Aside0.mk hr0_3
 have HC0_3 := Aside0.mk hc0_3
 clear hr0_3 hc0_3
 have HR1_0 := Aside0.mk hr1_0
 have HC1_0 := Aside0.mk hc1_0
 clear hr1_0 hc1_0
 have HB := Aside0.mk (Below.refl w.heap.size w)
 have H : (if a1_1 = 0 then (if a0_0 = 1 then (pdu_answer.j0 k a0_0 (a0_0 == 1) a0_0 a0_1 a0_2 l0_3 a0_4 a0_5 a0_6 l1_0 a1_1) else (pdu_answer.j0 k a0_0 (a0_0 == 2) a0_0 a0_1 a0_2 l0_3 a0_4 a0_5 a0_6 l1_0 a1_1)) else ((pdu_within.f a1_1 1 255).bind fun t120 => (if t120 = true then (some ((l1_0.length : Int) == 0)) else (some false)))) = some r := h
 clear h
 by_cases c3 : a1_1 = 0
 ·rw [if_pos c3] at H
  have c3b0 : (a1_1 == 0) = true := beq_iff_eq.mpr c3
  have c3b1 : (a1_1 != 0) = false := bne_eq_false_iff_eq.mpr c3
  clear c3
  have HC4 := Aside0.mk H
  clear H
  go_enter Try.func60, Try.ntmps60
  go_upto_if 19 with (first | ((with_reducible refine gate_dst (N := 2) rfl ?_); (try (refine gate_guard (by rfl) ?_; dsimp only)); refine bx_ (N := 2) (cs := #[.int .i64 a0_0, .int .i64 a0_1, .int .i64 a0_2, .slice A0_3 l0_3.length c0_3, .int .i64 a0_4, .int .i64 a0_5, .int .i64 a0_6]) (t := 31) ?_; intro gb118 hg w5 hbox hb; have n0_ := Aside0.mk (below_step (bl0_ HB) hb); have n1_ := Aside0.mk (hbox); have n2_ := Aside0.mk ((by rw [hg]; exact (below_size (bl0_ HB)) : w.heap.size ≤ gb118)); have n3_ := Aside0.mk ((by rw [hg]; exact (below_size (bl0_ HB)) : w.heap.size ≤ gb118)); clear HB; have HB := n0_; have BK118 := n1_; have GW118 := n2_; have GE118 := n3_; clear n0_ n1_ n2_ n3_; clear hb hbox hg) | ((with_reducible refine gate_dst (N := 3) rfl ?_); (try (refine gate_guard (by rfl) ?_; dsimp only)); refine bx_ (N := 3) (cs := #[.slice A1_0 l1_0.length c1_0, .int .i64 a1_1]) (t := 46) ?_; intro gb119 hg w6 hbox hb; have n0_ := Aside0.mk (blk_below (g := gb118) (bk_ BK118) hb); have n1_ := Aside0.mk (below_step (bl1_ HB GE118) hb); have n2_ := Aside0.mk (hbox); have n3_ := Aside0.mk ((by rw [hg]; exact (below_size (bl1_ HB GE118)) : w.heap.size ≤ gb119)); have n4_ := Aside0.mk ((by rw [hg]; exact (below_size (bl1_ HB GE118)) : w.heap.size ≤ gb119)); have n5_ := Aside0.mk ((by rw [hg]; exact Nat.ne_of_lt (blk_lt (g := gb118) (bk_ BK118)) : gb118 ≠ gb119)); have n6_ := Aside0.mk ((by rw [hg]; exact Nat.ne_of_gt (blk_lt (g := gb118) (bk_ BK118)) : gb119 ≠ gb118)); clear BK118; clear HB; have BK118 := n0_; have HB := n1_; have BK119 := n2_; have GW119 := n3_; have GE119 := n4_; have NB118_119 := n5_; have NB119_118 := n6_; clear n0_ n1_ n2_ n3_ n4_ n5_ n6_; clear hb hbox hg; have hnb7 := NB119_118.out; have hnc7 := NB118_119.out; refine cz2_ BK119.out ?_; intro hcz8_0 hcz8_1 hfz8_0 hfz8_1; refine cz7_ BK118.out ?_; intro hcz9_0 hcz9_1 hcz9_2 hcz9_3 hcz9_4 hcz9_5 hcz9_6 hfz9_0 hfz9_1 hfz9_2 hfz9_3 hfz9_4 hfz9_5 hfz9_6))
  (try simp only [Act.put, List.setIfInBounds_toArray, List.set_cons_zero, List.set_cons_succ])
  go_cut [19] (fun v19 wc => ∃ (kq : Nat) (x19_3 : Bool), v19 = .bool x19_3 ∧ Aside0 (pdu_answer.j0 kq a0_0 x19_3 a0_0 a0_1 a0_2 l0_3 a0_4 a0_5 a0_6 l1_0 a1_1 = some r) ∧ Aside0 (kq ≤ k) ∧ Aside0 (wc.heap[gb118]? = some (.cells #[.int .i64 a0_0, .int .i64 a0_1, .int .i64 a0_2, (.slice A0_3 l0_3.length c0_3), .int .i64 a0_4, .int .i64 a0_5, .int .i64 a0_6] 31 (0, 0))) ∧ Aside0 (wc.heap[gb119]? = some (.cells #[(.slice A1_0 l1_0.length c1_0), .int .i64 a1_1] 46 (0, 0))) ∧ Aside0 (Below w.heap.size w wc))
  case first =>
   have H := HC4.out
   clear HC4
   by_cases c10 : a0_0 = 1
   ·rw [if_pos c10] at H
    have c10b0 : (a0_0 == 1) = true := beq_iff_eq.mpr c10
    have c10b1 : (a0_0 != 1) = false := bne_eq_false_iff_eq.mpr c10
    clear c10
    (first | rw [c10b0] | (simp only [i64_w, i32_w]; rw [c10b0]) | skip)
    have H' := Aside0.mk H
    clear H
    go_wp2
    go_meet
    case rel => exact ⟨_, ((a0_0 == 1)), (by first | rfl | (simp; done) | (simp [*]; done)), H', ⟨by first | omega | exact Nat.le_refl _⟩, ⟨bk_ BK118⟩, ⟨bk_ BK119⟩, ⟨bl2_ HB GE118 GE119⟩⟩
   ·rw [if_neg c10] at H
    have c10b0 : (a0_0 == 1) = false := beq_eq_false_iff_ne.mpr c10
    have c10b1 : (a0_0 != 1) = true := bne_iff_ne.mpr c10
    (first | rw [c10b0] | (simp only [i64_w, i32_w]; rw [c10b0]) | skip)
    have H' := Aside0.mk H
    clear H
    go_wp2
    go_meet
    case rel => exact ⟨_, ((a0_0 == 2)), (by first | rfl | (simp; done) | (simp [*]; done)), H', ⟨by first | omega | exact Nat.le_refl _⟩, ⟨bk_ BK118⟩, ⟨bk_ BK119⟩, ⟨bl2_ HB GE118 GE119⟩⟩
  case rest =>
   clear HC4
   try clear c1
   try clear p2
   try clear c3
   try clear c3b0
   try clear c3b1
   try clear c6
   try clear c7
   try clear c10
   try clear c10b0
   try clear c10b1
   try clear hcz8_0 hcz8_1
   try clear hcz9_0 hcz9_1 hcz9_2 hcz9_3 hcz9_4 hcz9_5 hcz9_6
   try clear hfz8_0 hfz8_1
   try clear hfz9_0 hfz9_1 hfz9_2 hfz9_3 hfz9_4 hfz9_5 hfz9_6
   obtain ⟨kq, x19_3, rfl, HA, HJ3, BK118, BK119, HB⟩ := hcut
   cases kq with
   | zero => exact absurd HA.out (by simp [pdu_answer.j0])
   | succ kj3 =>
    have H := HA.out
    clear HA
    simp only [pdu_answer.j0] at H
    by_cases c11 : x19_3 = true
    ·subst c11
     have H1 : ((pdu_some.f kj3 l1_0 a0_2 a0_2 1).bind fun t121 => (some t121)) = some r := by rw [if_pos rfl] at H; exact H
     clear H
     have H := H1
     clear H1
     replace H := Option.bind_eq_some_iff.mp H
     obtain ⟨t121, A120, H⟩ := H
     replace H : (some t121) = some r := H
     have A12 := Aside0.mk A120
     clear A120
     obtain rfl := Option.some.inj H
     have hnb13 := NB119_118.out
     have hnc13 := NB118_119.out
     refine cz2_ BK119.out ?_; intro hcz14_0 hcz14_1 hfz14_0 hfz14_1
     refine cz7_ BK118.out ?_; intro hcz15_0 hcz15_1 hcz15_2 hcz15_3 hcz15_4 hcz15_5 hcz15_6 hfz15_0 hfz15_1 hfz15_2 hfz15_3 hfz15_4 hfz15_5 hfz15_6
     go_wp2_with (first | ((with_reducible refine gate_callee (f := 45) rfl ?_); refine goesL_ (some 28) rfl rfl Try.func45 (by kernel_rfl) rfl #[.slice A1_0 l1_0.length c1_0, .int .i64 a0_2, .int .i64 a0_2, .int .i64 1] rfl ar_ ?_; (with_reducible refine (pdu_some.calls kj3 _ _ l1_0 a0_2 a0_2 1 t121 _ ?side1 ?side2 A12.out).mono ?_); (case side1 => exact sc_ (Kd.C_below HR1_0.out HB.out)); (case side2 => exact HC1_0.out); rintro e w' ⟨rfl, ⟨nd, rfl⟩⟩; refine ⟨_, rfl, ?_⟩))
     go_ret
     exact ⟨er_, bl2_ HB GE118 GE119⟩
    ·replace c11 := Bool.eq_false_iff.mpr c11
     subst c11
     have H1 : (if a0_0 = 3 then ((pdu_some.f kj3 l1_0 a0_2 a0_2 65535).bind fun t122 => (some t122)) else (if a0_0 = 4 then ((pdu_some.f kj3 l1_0 a0_2 a0_2 65535).bind fun t123 => (some t123)) else (if a0_0 = 23 then ((pdu_some.f kj3 l1_0 a0_2 a0_2 65535).bind fun t124 => (some t124)) else (some ((l1_0.length : Int) == 0))))) = some r := by rw [if_neg (show ¬ (false = true) by decide)] at H; exact H
     clear H
     have H := H1
     clear H1
     by_cases c16 : a0_0 = 3
     ·rw [if_pos c16] at H
      have c16b0 : (a0_0 == 3) = true := beq_iff_eq.mpr c16
      have c16b1 : (a0_0 != 3) = false := bne_eq_false_iff_eq.mpr c16
      clear c16
      replace H := Option.bind_eq_some_iff.mp H
      obtain ⟨t122, A170, H⟩ := H
      replace H : (some t122) = some r := H
      have A17 := Aside0.mk A170
      clear A170
      obtain rfl := Option.some.inj H
      have hnb18 := NB119_118.out
      have hnc18 := NB118_119.out
      refine cz2_ BK119.out ?_; intro hcz19_0 hcz19_1 hfz19_0 hfz19_1
      refine cz7_ BK118.out ?_; intro hcz20_0 hcz20_1 hcz20_2 hcz20_3 hcz20_4 hcz20_5 hcz20_6 hfz20_0 hfz20_1 hfz20_2 hfz20_3 hfz20_4 hfz20_5 hfz20_6
      go_wp2_with (first | ((with_reducible refine gate_callee (f := 45) rfl ?_); refine goesL_ (some 39) rfl rfl Try.func45 (by kernel_rfl) rfl #[.slice A1_0 l1_0.length c1_0, .int .i64 a0_2, .int .i64 a0_2, .int .i64 65535] rfl ar_ ?_; (with_reducible refine (pdu_some.calls kj3 _ _ l1_0 a0_2 a0_2 65535 t122 _ ?side1 ?side2 A17.out).mono ?_); (case side1 => exact sc_ (Kd.C_below HR1_0.out HB.out)); (case side2 => exact HC1_0.out); rintro e w' ⟨rfl, ⟨nd, rfl⟩⟩; refine ⟨_, rfl, ?_⟩))
      go_ret
      exact ⟨er_, bl2_ HB GE118 GE119⟩
     ·rw [if_neg c16] at H
      have c16b0 : (a0_0 == 3) = false := beq_eq_false_iff_ne.mpr c16
      have c16b1 : (a0_0 != 3) = true := bne_iff_ne.mpr c16
      by_cases c21 : a0_0 = 4
      ·rw [if_pos c21] at H
       have c21b0 : (a0_0 == 4) = true := beq_iff_eq.mpr c21
       have c21b1 : (a0_0 != 4) = false := bne_eq_false_iff_eq.mpr c21
       clear c21
       replace H := Option.bind_eq_some_iff.mp H
       obtain ⟨t123, A220, H⟩ := H
       replace H : (some t123) = some r := H
       have A22 := Aside0.mk A220
       clear A220
       obtain rfl := Option.some.inj H
       have hnb23 := NB119_118.out
       have hnc23 := NB118_119.out
       refine cz2_ BK119.out ?_; intro hcz24_0 hcz24_1 hfz24_0 hfz24_1
       refine cz7_ BK118.out ?_; intro hcz25_0 hcz25_1 hcz25_2 hcz25_3 hcz25_4 hcz25_5 hcz25_6 hfz25_0 hfz25_1 hfz25_2 hfz25_3 hfz25_4 hfz25_5 hfz25_6
       go_wp2_with (first | ((with_reducible refine gate_callee (f := 45) rfl ?_); refine goesL_ (some 39) rfl rfl Try.func45 (by kernel_rfl) rfl #[.slice A1_0 l1_0.length c1_0, .int .i64 a0_2, .int .i64 a0_2, .int .i64 65535] rfl ar_ ?_; (with_reducible refine (pdu_some.calls kj3 _ _ l1_0 a0_2 a0_2 65535 t123 _ ?side1 ?side2 A22.out).mono ?_); (case side1 => exact sc_ (Kd.C_below HR1_0.out HB.out)); (case side2 => exact HC1_0.out); rintro e w' ⟨rfl, ⟨nd, rfl⟩⟩; refine ⟨_, rfl, ?_⟩))
       go_ret
       exact ⟨er_, bl2_ HB GE118 GE119⟩
      ·rw [if_neg c21] at H
       have c21b0 : (a0_0 == 4) = false := beq_eq_false_iff_ne.mpr c21
       have c21b1 : (a0_0 != 4) = true := bne_iff_ne.mpr c21
       by_cases c26 : a0_0 = 23
       ·rw [if_pos c26] at H
        have c26b0 : (a0_0 == 23) = true := beq_iff_eq.mpr c26
        have c26b1 : (a0_0 != 23) = false := bne_eq_false_iff_eq.mpr c26
        clear c26
        replace H := Option.bind_eq_some_iff.mp H
        obtain ⟨t124, A270, H⟩ := H
        replace H : (some t124) = some r := H
        have A27 := Aside0.mk A270
        clear A270
        obtain rfl := Option.some.inj H
        have hnb28 := NB119_118.out
        have hnc28 := NB118_119.out
        refine cz2_ BK119.out ?_; intro hcz29_0 hcz29_1 hfz29_0 hfz29_1
        refine cz7_ BK118.out ?_; intro hcz30_0 hcz30_1 hcz30_2 hcz30_3 hcz30_4 hcz30_5 hcz30_6 hfz30_0 hfz30_1 hfz30_2 hfz30_3 hfz30_4 hfz30_5 hfz30_6
        go_wp2_with (first | ((with_reducible refine gate_callee (f := 45) rfl ?_); refine goesL_ (some 39) rfl rfl Try.func45 (by kernel_rfl) rfl #[.slice A1_0 l1_0.length c1_0, .int .i64 a0_2, .int .i64 a0_2, .int .i64 65535] rfl ar_ ?_; (with_reducible refine (pdu_some.calls kj3 _ _ l1_0 a0_2 a0_2 65535 t124 _ ?side1 ?side2 A27.out).mono ?_); (case side1 => exact sc_ (Kd.C_below HR1_0.out HB.out)); (case side2 => exact HC1_0.out); rintro e w' ⟨rfl, ⟨nd, rfl⟩⟩; refine ⟨_, rfl, ?_⟩))
        go_ret
        exact ⟨er_, bl2_ HB GE118 GE119⟩
       ·rw [if_neg c26] at H
        have c26b0 : (a0_0 == 23) = false := beq_eq_false_iff_ne.mpr c26
        have c26b1 : (a0_0 != 23) = true := bne_iff_ne.mpr c26
        obtain rfl := Option.some.inj H
        have hnb31 := NB119_118.out
        have hnc31 := NB118_119.out
        refine cz2_ BK119.out ?_; intro hcz32_0 hcz32_1 hfz32_0 hfz32_1
        go_wp2
        go_ret
        exact ⟨er_, bl2_ HB GE118 GE119⟩
 ·rw [if_neg c3] at H
  have c3b0 : (a1_1 == 0) = false := beq_eq_false_iff_ne.mpr c3
  have c3b1 : (a1_1 != 0) = true := bne_iff_ne.mpr c3
  replace H := Option.bind_eq_some_iff.mp H
  obtain ⟨t120, A330, H⟩ := H
  replace H : (if t120 = true then (some ((l1_0.length : Int) == 0)) else (some false)) = some r := H
  have A33 := Aside0.mk A330
  clear A330
  by_cases c34 : t120 = true
  ·subst c34
   have H1 : (some ((l1_0.length : Int) == 0)) = some r := by rw [if_pos rfl] at H; exact H
   clear H
   have H := H1
   clear H1
   obtain rfl := Option.some.inj H
   go_enter Try.func60, Try.ntmps60
   go_wp2_with (first | ((with_reducible refine gate_dst (N := 2) rfl ?_); (try (refine gate_guard (by rfl) ?_; dsimp only)); refine bx_ (N := 2) (cs := #[.int .i64 a0_0, .int .i64 a0_1, .int .i64 a0_2, .slice A0_3 l0_3.length c0_3, .int .i64 a0_4, .int .i64 a0_5, .int .i64 a0_6]) (t := 31) ?_; intro gb118 hg w35 hbox hb; have n0_ := Aside0.mk (below_step (bl0_ HB) hb); have n1_ := Aside0.mk (hbox); have n2_ := Aside0.mk ((by rw [hg]; exact (below_size (bl0_ HB)) : w.heap.size ≤ gb118)); have n3_ := Aside0.mk ((by rw [hg]; exact (below_size (bl0_ HB)) : w.heap.size ≤ gb118)); clear HB; have HB := n0_; have BK118 := n1_; have GW118 := n2_; have GE118 := n3_; clear n0_ n1_ n2_ n3_; clear hb hbox hg) | ((with_reducible refine gate_dst (N := 3) rfl ?_); (try (refine gate_guard (by rfl) ?_; dsimp only)); refine bx_ (N := 3) (cs := #[.slice A1_0 l1_0.length c1_0, .int .i64 a1_1]) (t := 46) ?_; intro gb119 hg w36 hbox hb; have n0_ := Aside0.mk (blk_below (g := gb118) (bk_ BK118) hb); have n1_ := Aside0.mk (below_step (bl1_ HB GE118) hb); have n2_ := Aside0.mk (hbox); have n3_ := Aside0.mk ((by rw [hg]; exact (below_size (bl1_ HB GE118)) : w.heap.size ≤ gb119)); have n4_ := Aside0.mk ((by rw [hg]; exact (below_size (bl1_ HB GE118)) : w.heap.size ≤ gb119)); have n5_ := Aside0.mk ((by rw [hg]; exact Nat.ne_of_lt (blk_lt (g := gb118) (bk_ BK118)) : gb118 ≠ gb119)); have n6_ := Aside0.mk ((by rw [hg]; exact Nat.ne_of_gt (blk_lt (g := gb118) (bk_ BK118)) : gb119 ≠ gb118)); clear BK118; clear HB; have BK118 := n0_; have HB := n1_; have BK119 := n2_; have GW119 := n3_; have GE119 := n4_; have NB118_119 := n5_; have NB119_118 := n6_; clear n0_ n1_ n2_ n3_ n4_ n5_ n6_; clear hb hbox hg; have hnb37 := NB119_118.out; have hnc37 := NB118_119.out; refine cz2_ BK119.out ?_; intro hcz38_0 hcz38_1 hfz38_0 hfz38_1) | ((with_reducible refine gate_callee (f := 43) rfl ?_); refine goesL_ (some 10) rfl rfl Try.func43 (by kernel_rfl) rfl #[.int .i64 a1_1, .int .i64 1, .int .i64 255] rfl ar_ ?_; (with_reducible refine (pdu_within.calls a1_1 1 255 true _ A33.out).mono ?_); rintro e w' ⟨rfl, ⟨nd, rfl⟩⟩; refine ⟨_, rfl, ?_⟩))
   go_ret
   exact ⟨er_, bl2_ HB GE118 GE119⟩
  ·replace c34 := Bool.eq_false_iff.mpr c34
   subst c34
   have H1 : (some false) = some r := by rw [if_neg (show ¬ (false = true) by decide)] at H; exact H
   clear H
   have H := H1
   clear H1
   obtain rfl := Option.some.inj H
   go_enter Try.func60, Try.ntmps60
   go_wp2_with (first | ((with_reducible refine gate_dst (N := 2) rfl ?_); (try (refine gate_guard (by rfl) ?_; dsimp only)); refine bx_ (N := 2) (cs := #[.int .i64 a0_0, .int .i64 a0_1, .int .i64 a0_2, .slice A0_3 l0_3.length c0_3, .int .i64 a0_4, .int .i64 a0_5, .int .i64 a0_6]) (t := 31) ?_; intro gb118 hg w39 hbox hb; have n0_ := Aside0.mk (below_step (bl0_ HB) hb); have n1_ := Aside0.mk (hbox); have n2_ := Aside0.mk ((by rw [hg]; exact (below_size (bl0_ HB)) : w.heap.size ≤ gb118)); have n3_ := Aside0.mk ((by rw [hg]; exact (below_size (bl0_ HB)) : w.heap.size ≤ gb118)); clear HB; have HB := n0_; have BK118 := n1_; have GW118 := n2_; have GE118 := n3_; clear n0_ n1_ n2_ n3_; clear hb hbox hg) | ((with_reducible refine gate_dst (N := 3) rfl ?_); (try (refine gate_guard (by rfl) ?_; dsimp only)); refine bx_ (N := 3) (cs := #[.slice A1_0 l1_0.length c1_0, .int .i64 a1_1]) (t := 46) ?_; intro gb119 hg w40 hbox hb; have n0_ := Aside0.mk (blk_below (g := gb118) (bk_ BK118) hb); have n1_ := Aside0.mk (below_step (bl1_ HB GE118) hb); have n2_ := Aside0.mk (hbox); have n3_ := Aside0.mk ((by rw [hg]; exact (below_size (bl1_ HB GE118)) : w.heap.size ≤ gb119)); have n4_ := Aside0.mk ((by rw [hg]; exact (below_size (bl1_ HB GE118)) : w.heap.size ≤ gb119)); have n5_ := Aside0.mk ((by rw [hg]; exact Nat.ne_of_lt (blk_lt (g := gb118) (bk_ BK118)) : gb118 ≠ gb119)); have n6_ := Aside0.mk ((by rw [hg]; exact Nat.ne_of_gt (blk_lt (g := gb118) (bk_ BK118)) : gb119 ≠ gb118)); clear BK118; clear HB; have BK118 := n0_; have HB := n1_; have BK119 := n2_; have GW119 := n3_; have GE119 := n4_; have NB118_119 := n5_; have NB119_118 := n6_; clear n0_ n1_ n2_ n3_ n4_ n5_ n6_; clear hb hbox hg; have hnb41 := NB119_118.out; have hnc41 := NB118_119.out; refine cz2_ BK119.out ?_; intro hcz42_0 hcz42_1 hfz42_0 hfz42_1) | ((with_reducible refine gate_callee (f := 43) rfl ?_); refine goesL_ (some 10) rfl rfl Try.func43 (by kernel_rfl) rfl #[.int .i64 a1_1, .int .i64 1, .int .i64 255] rfl ar_ ?_; (with_reducible refine (pdu_within.calls a1_1 1 255 false _ A33.out).mono ?_); rintro e w' ⟨rfl, ⟨nd, rfl⟩⟩; refine ⟨_, rfl, ?_⟩))
   go_ret
   exact ⟨er_, bl2_ HB GE118 GE119⟩
end Go.Proofs.Ytlalpooiegganaa.PG
end

section
namespace Go.Proofs.Ytlalpooiegganaa.PG
open Go.RowKit Go.Proofs.YtlalpooiegganaaW.PrintWords Go.Proofs.YtlalpooiegganaaW.PrintLast Go.Proofs.YtlalpooiegganaaW.PrintMore
attribute [local go_sem] max2_int min2_int max_two min_two max_three min_three max_four min_four   
set_option linter.unusedVariables false
set_option linter.unusedSimpArgs false
open Go.Proofs.Ytlalpooiegganaa.Ext Go.Proofs.Ytlalpooiegganaa.PP Go.Proofs.Ytlalpooiegganaa.ExtF Go.Proofs.Ytlalpooiegganaa.ExtM
def pdu_counted.f (l0 : List Int) (l1 : List Int) : Option (List Int) := if l0.length < 140737488355328 then ((some (l0 ++ [((l1.length : Int)) % 256] : List Int)).bind fun y125 => (if y125.length + l1.length < 140737488355328 then (some (y125 ++ l1)) else (none))) else (none)
set_option maxHeartbeats 8000000 in
set_option maxRecDepth 100000 in
theorem pdu_counted.calls (P0_ : Nat → Prop) (u9000_ : Value) (l0 : List Int) (A1 : Option Addr) (c1 : Nat) (l1 : List Int) (r : List Int) (w0 w : World) (hB : Below w0.heap.size w0 w) (ho0 : Kd.R (Kd.int .u8) 5 w w0.heap.size P0_ u9000_ l0) (hr1 : ∀ W_, Kept w W_ (fun k_ => P0_ k_) → Kd.C (Kd.int .u8) W_ A1 l1.length l1) (hc1 : l1.length ≤ c1) (h : pdu_counted.f l0 l1 = some r) :
 Calls Try.prog 61 #[u9000_, .slice A1 l1.length c1] w fun e w' => ∃ v0_ : Value, e = .returned (v0_) ∧ Kd.R (Kd.int .u8) 5 w' w0.heap.size (fun k_ => (P0_ k_ ∨ w.heap.size ≤ k_)) v0_ r ∧ Below w0.heap.size w0 w' ∧ Kept w w' (fun k_ => P0_ k_) := by
 have HO0 := Aside0.mk (show Kd.R (Kd.int .u8) 5 w w0.heap.size (fun k_ => (P0_ k_ ∨ w.heap.size ≤ k_)) u9000_ l0 from Kd.R_mono ho0 (fun k_ hk => (.inl hk)))
 have HR1 := Aside0.mk hr1
 have HC1 := Aside0.mk hc1
 clear hr1 hc1
 have HK := Aside0.mk (Kept.refl w (fun k_ => P0_ k_))
 have HW0 := Aside0.mk hB.size
 have HB := Aside0.mk hB
 clear hB
 have H : (if l0.length < 140737488355328 then ((some (l0 ++ [((l1.length : Int)) % 256] : List Int)).bind fun y125 => (if y125.length + l1.length < 140737488355328 then (some (y125 ++ l1)) else (none))) else (none)) = some r := h
 clear h
 by_cases c3 : l0.length < 140737488355328
 ·rw [if_pos c3] at H
  have LMc3 := Aside0.mk c3
  clear c3
  obtain ⟨y125, hy125⟩ : ∃ y_ : List Int, y_ = (l0 ++ [((l1.length : Int)) % 256]) := ⟨_, rfl⟩
  replace H : (if y125.length + l1.length < 140737488355328 then (some (y125 ++ l1)) else (none)) = some r := by first | (rw [hy125]; with_reducible exact H) | (have H2_ := (Option.bind_some _ _).symm.trans H; rw [hy125]; with_reducible exact H2_) | (have H2_ := (Option.bind_some _ _).symm.trans H; with_reducible exact H2_) | with_reducible exact H | (rw [hy125]; exact H) | exact H
  have Ny125 := Aside0.mk hy125
  clear hy125
  by_cases c4 : y125.length + l1.length < 140737488355328
  ·rw [if_pos c4] at H
   have LMc4 := Aside0.mk c4
   clear c4
   obtain ⟨y128, hy128⟩ : ∃ y_ : List Int, y_ = (y125 ++ l1) := ⟨_, rfl⟩
   replace H : (some y128) = some r := by first | (rw [hy128]; with_reducible exact H) | (have H2_ := (Option.bind_some _ _).symm.trans H; rw [hy128]; with_reducible exact H2_) | (have H2_ := (Option.bind_some _ _).symm.trans H; with_reducible exact H2_) | with_reducible exact H | (rw [hy128]; exact H) | exact H
   have Ny128 := Aside0.mk hy128
   clear hy128
   obtain rfl := Option.some.inj H
   go_enter Try.func61, Try.ntmps61
   go_wp2_with (first | ((with_reducible refine gate_builtin (b := .append) (xs := #[.tmp 5, .tmp 9]) rfl ?_); at_builtin; refine Kd.R_append (Kd.int .u8) (w0 := w0) w0.heap.size rfl (.tmp 5) (.tmp 9) 43 5 (.int .u8 0) 1 rfl Try.underlying43 info5 rfl (by decide) (by omega) u9000_ l0 (((l1.length : Int)) % 256) [.int .u8 (((l1.length : Int)) % 256)] (fun k_ => (P0_ k_ ∨ w.heap.size ≤ k_)) (fun _ => False) rfl rfl ?aP (fun _ hk => hk.elim) ?aF ?aO ?aB ?aS ?aL ?_; (case aP => exact rfl); (case aB => exact (bl0_ HB)); (case aF => exact (fun k_ hk => (.inr (Nat.le_trans (by first | exact HK.out.1 | exact (show Kept w _ (fun k_ => P0_ k_) from by repeat (first | (with_reducible first | exact HK.out | apply Kept.alloc | apply Kept.drewN | apply Kept.drew) | exact HK.out)).1) hk)))); (case aO => exact (kr_ HO0)); (case aS => exact (below_size (bl0_ HB))); (case aL => have := LMc3.out; omega); intro v126 w5 ho hb hg hat; rw [← Ny125.out] at ho; have n0_ := Aside0.mk (hb); have n1_ := Aside0.mk (Kept.of_grown (S := (fun k_ => P0_ k_)) hg (by repeat (first | (with_reducible first | exact HK.out | apply Kept.alloc | apply Kept.drewN | apply Kept.drew) | exact HK.out)) (fun k_ e_ => (HO0.out.1 k_ e_))); have n2_ := Aside0.mk (ho); clear HB; clear HK; clear HO0; have HB := n0_; have HK := n1_; have HO127 := n2_; clear n0_ n1_ n2_; clear ho hb hg hat) | ((with_reducible refine gate_builtin (b := .append) (xs := #[.tmp 10, .tmp 11]) rfl ?_); at_builtin; refine Kd.R_append_rows (Kd.int .u8) (w0 := w0) w0.heap.size rfl (.tmp 10) (.tmp 11) 43 5 (.int .u8 0) 1 rfl Try.underlying43 info5 rfl (by decide) (by omega) v126 y125 l1 _ _ _ (fun k_ => (P0_ k_ ∨ w.heap.size ≤ k_)) (fun _ => False) rfl rfl ?aO ?aR (fun _ _ h => h) (fun _ h => h.elim) ?aF ?aB ?aS ?aL ?_; (case aR => exact Kd.C_kept_now HR1.out (by repeat (first | (with_reducible first | exact HK.out | apply Kept.alloc | apply Kept.drewN | apply Kept.drew) | exact HK.out))); (case aB => exact (bl0_ HB)); (case aF => exact (fun k_ hk => (.inr (Nat.le_trans (by first | exact HK.out.1 | exact (show Kept w _ (fun k_ => P0_ k_) from by repeat (first | (with_reducible first | exact HK.out | apply Kept.alloc | apply Kept.drewN | apply Kept.drew) | exact HK.out)).1) hk)))); (case aO => exact (kr_ HO127)); (case aS => exact (below_size (bl0_ HB))); (case aL => have := LMc4.out; omega); intro v129 w6 ho hb hg hat; rw [← Ny128.out] at ho; have n0_ := Aside0.mk (hb); have n1_ := Aside0.mk (Kept.of_grown (S := (fun k_ => P0_ k_)) hg (by repeat (first | (with_reducible first | exact HK.out | apply Kept.alloc | apply Kept.drewN | apply Kept.drew) | exact HK.out)) (fun k_ e_ => (HO127.out.1 k_ e_))); have n2_ := Aside0.mk (ho); clear HB; clear HK; clear HO127; have HB := n0_; have HK := n1_; have HO130 := n2_; clear n0_ n1_ n2_; clear ho hb hg hat))
   go_ret
   exact ⟨_, er_, kr_ HO130, bl0_ HB, by repeat (first | (with_reducible first | exact HK.out | apply Kept.alloc | apply Kept.drewN | apply Kept.drew) | exact HK.out)⟩
  ·rw [if_neg c4] at H
   exact absurd H (by simp)
 ·rw [if_neg c3] at H
  exact absurd H (by simp)
end Go.Proofs.Ytlalpooiegganaa.PG
end

section
namespace Go.Proofs.Ytlalpooiegganaa.PG
open Go.RowKit Go.Proofs.YtlalpooiegganaaW.PrintWords Go.Proofs.YtlalpooiegganaaW.PrintLast Go.Proofs.YtlalpooiegganaaW.PrintMore
attribute [local go_sem] max2_int min2_int max_two min_two max_three min_three max_four min_four   
set_option linter.unusedVariables false
set_option linter.unusedSimpArgs false
open Go.Proofs.Ytlalpooiegganaa.Ext Go.Proofs.Ytlalpooiegganaa.PP Go.Proofs.Ytlalpooiegganaa.ExtF Go.Proofs.Ytlalpooiegganaa.ExtM
def wire_Pack.l0 : Nat → List Int → List Int → Int → Int → Option (List Int × Int)
 | 0, _, _, _, _ => none
 | k + 1, x4, x12, x13, x14 => if x14 < x13 then (if 0 ≤ x14 then (if x14 < (x12.length : Int) then (if (rd x12 x14) = 0 then (wire_Pack.l0 k x4 x12 x13 (wrap64 (x14 + 1))) else (if (rd x12 x14) = 1 then (if 0 ≤ (wrap64 (Int.tdiv x14 8)) then (if (wrap64 (Int.tdiv x14 8)) < (x4.length : Int) then (if 0 ≤ (Int.tmod x14 8) then (wire_Pack.l0 k (x4.set ((wrap64 (Int.tdiv x14 8)) : Int).toNat (Go.bits .or .u8 (rd x4 (wrap64 (Int.tdiv x14 8))) (shl .u8 1 (Int.tmod x14 8)))) x12 x13 (wrap64 (x14 + 1))) else (none)) else (none)) else (none)) else (some (([] : List Int), 1)))) else (none)) else (none)) else (some (x4, 0))
def wire_Pack.f (k : Nat) (l0 : List Int) : Option (List Int × Int) := if 0 ≤ (wrap64 (Int.tdiv (wrap64 ((l0.length : Int) + 7)) 8)) then (if (wrap64 (Int.tdiv (wrap64 ((l0.length : Int) + 7)) 8) : Int).toNat ≤ 281474976710656 then (wire_Pack.l0 k (List.replicate (wrap64 (Int.tdiv (wrap64 ((l0.length : Int) + 7)) 8) : Int).toNat 0) l0 (l0.length : Int) 0) else (none)) else (none)
theorem wire_Pack.mono_l : ∀ k, (∀ y0 y1 y2 y3, LeO (wire_Pack.l0 k y0 y1 y2 y3) (wire_Pack.l0 (k + 1) y0 y1 y2 y3))
 | 0 => fun _ _ _ _ r h => by simp [wire_Pack.l0] at h
 | k + 1 => by
  have ih0 := wire_Pack.mono_l k
  ·intro y0 y1 y2 y3
   unfold wire_Pack.l0
   repeat' first
   | (with_reducible exact ih0 _ _ _ _)
   | (with_reducible exact LeO.refl _)
   | (with_reducible exact LeO.none _)
   | (with_reducible refine LeO.ite ?_ ?_)
   | (with_reducible refine LeO.bind ?_ (fun _ => ?_))
   | exact ih0 _ _ _ _
   | exact LeO.none _
   | refine LeO.ite ?_ ?_
   | refine LeO.bind ?_ (fun _ => ?_)
theorem wire_Pack.mono : ∀ a0 k, LeO (wire_Pack.f k a0) (wire_Pack.f (k + 1) a0) := by
 intro a0 k
 have ih0 := wire_Pack.mono_l k
 unfold wire_Pack.f
 repeat' first
  | (with_reducible exact ih0 _ _ _ _)
  | (with_reducible exact LeO.refl _)
  | (with_reducible exact LeO.none _)
  | (with_reducible refine LeO.ite ?_ ?_)
  | (with_reducible refine LeO.bind ?_ (fun _ => ?_))
  | exact ih0 _ _ _ _
  | exact LeO.none _
  | refine LeO.ite ?_ ?_
  | refine LeO.bind ?_ (fun _ => ?_)
def wire_Pack.T9 : Bool × List (List Nat × List Nat) := (true, [([], []), ([], []), ([1], [1]), ([0, 2], [0, 2]), ([3], [3]), ([], []), ([5], [5]), ([6], [6]), ([4, 7], [4, 7]), ([0, 2, 0, 1, 2, 3, 4, 5, 6, 7, 8], [0, 2]), ([9, 8, 0, 1, 2, 3, 4, 5, 6, 7, 8], [8, 9])])
def wire_Pack.B9 : List Nat := [0, 0, 2, 7, 15, 0, 32, 96, 255, 511, 1023]
theorem wire_Pack.tab9 : rtab .any (opsOf Try.f68 9) = wire_Pack.T9 := by kernel_rfl
theorem wire_Pack.bits9 : waitsOk wire_Pack.T9.2 wire_Pack.B9 = true := by kernel_rfl
set_option maxHeartbeats 8000000 in
set_option maxRecDepth 100000 in
theorem wire_Pack.calls (k : Nat) (A0 : Option Addr) (c0 : Nat) (l0 : List Int) (r1 : List Int) (r2 : Int) (w : World) (hr0 : Kd.C (Kd.int .i64) w A0 l0.length l0) (hc0 : l0.length ≤ c0) (h : wire_Pack.f k l0 = some (r1, r2)) :
 Calls Try.prog 68 #[.slice A0 l0.length c0] w fun e w' => ∃ v0_ : Value, e = .returned (.tuple #[v0_, .int .i64 r2]) ∧ Kd.R (Kd.int .u8) 5 w' w.heap.size (fun _ => True) v0_ r1 ∧ Below w.heap.size w w' := by
 have HR0 := Aside0.mk hr0
 have HC0 := Aside0.mk hc0
 clear hr0 hc0
 have HB := Aside0.mk (Below.refl w.heap.size w)
 have H : (if 0 ≤ (wrap64 (Int.tdiv (wrap64 ((l0.length : Int) + 7)) 8)) then (if (wrap64 (Int.tdiv (wrap64 ((l0.length : Int) + 7)) 8) : Int).toNat ≤ 281474976710656 then (wire_Pack.l0 k (List.replicate (wrap64 (Int.tdiv (wrap64 ((l0.length : Int) + 7)) 8) : Int).toNat 0) l0 (l0.length : Int) 0) else (none)) else (none)) = some (r1, r2) := h
 clear h
 obtain ⟨ji2, hji2⟩ : ∃ j_ : Int, (wrap64 (Int.tdiv (wrap64 ((l0.length : Int) + 7)) 8)) = j_ := ⟨_, rfl⟩
 replace H : (if 0 ≤ (ji2) then (if (ji2 : Int).toNat ≤ 281474976710656 then (wire_Pack.l0 k (List.replicate (ji2 : Int).toNat 0) l0 (l0.length : Int) 0) else (none)) else (none)) = some (r1, r2) := by first | (rw [hji2] at H; exact H) | (simp only [hji2] at H ⊢; exact H)
 have hji2w : (IntKind.i64.wrap (Int.tdiv (wrap64 ((l0.length : Int) + 7)) 8)) = ji2 := (i64_w _).trans hji2
 by_cases c3 : 0 ≤ (ji2)
 ·rw [if_pos c3] at H
  have c3b0 := eq_true c3
  have c3b1 : decide (0 ≤ (ji2)) = true := decide_eq_true c3
  clear c3
  by_cases c4 : (ji2 : Int).toNat ≤ 281474976710656
  ·rw [if_pos c4] at H
   have c4b0 := eq_true c4
   have c4b1 : decide ((ji2 : Int).toNat ≤ 281474976710656) = true := decide_eq_true c4
   clear c4
   obtain ⟨y131, hy131⟩ : ∃ y_ : List Int, y_ = (List.replicate (ji2 : Int).toNat 0) := ⟨_, rfl⟩
   replace H : (wire_Pack.l0 k y131 l0 (l0.length : Int) 0) = some (r1, r2) := by first | (rw [hy131]; with_reducible exact H) | (have H2_ := (Option.bind_some _ _).symm.trans H; rw [hy131]; with_reducible exact H2_) | (have H2_ := (Option.bind_some _ _).symm.trans H; with_reducible exact H2_) | with_reducible exact H | (rw [hy131]; exact H) | exact H
   have Ny131 := Aside0.mk hy131
   clear hy131
   have H' := Aside0.mk H
   clear H
   go_enter Try.func68, Try.ntmps68
   go_wp2_with (first | ((with_reducible refine gate_dst (N := 11) rfl ?_); refine Kd.R_make (Kd.int .u8) _ 5 rfl (N := 11) rfl 43 _ _ rfl ji2 rfl rfl Try.underlying43 (.int .u8 0) 1 info5 rfl (by decide) (by omega) 0 (ok := fun _ => True) (okp := fun _ => True) rfl (fun _ hk => hk) trivial (of_decide_eq_true (by first | (with_reducible assumption) | assumption)) (Nat.le_trans (Nat.mul_le_mul_right _ (of_decide_eq_true (by first | (with_reducible assumption) | assumption) : ji2.toNat ≤ 281474976710656)) (by omega)) (Below.refl _ _) (Nat.le_refl _) ?_; intro v132 w5 ho6 hb hg_ hnew_; clear hg_ hnew_; (first | rw [← Ny131.out] at ho6 | (simp only [Int.reduceToNat] at ho6; rw [← Ny131.out] at ho6)); have n0_ := Aside0.mk (Kd.R_lower ho6 (below_size (bl0_ HB))); have n1_ := Aside0.mk (below_step (bl0_ HB) hb); clear HB; have HO133 := n0_; have HB := n1_; clear n0_ n1_; clear hb ho6))
   go_loopg [14] k (fun kq v14 w' => ∃ (x4_1 : List Int) (x14_1 : Int), v14 = .int .i64 x14_1 ∧ Aside0 (wire_Pack.l0 kq x4_1 l0 (l0.length : Int) x14_1 = some (r1, r2)) ∧ Aside0 (kq ≤ k) ∧ Aside0 (Kd.R (Kd.int .u8) 5 w' w.heap.size (fun _ => True) v132 x4_1) ∧ Aside0 (Below w.heap.size w w'))
   case atStart => exact ⟨(y131), (0), (by first | rfl | (simp; done) | (simp [*]; done)), H', ⟨Nat.le_refl _⟩, ⟨kr_ HO133⟩, ⟨bl0_ HB⟩⟩
   case round =>
    clear H'
    try clear p2
    try clear c3
    try clear c3b0
    try clear c3b1
    try clear c4
    try clear c4b0
    try clear c4b1
    try clear c6
    try clear p6
    obtain ⟨x4_1, x14_1, rfl, HA, HK1, HO_4, HB⟩ := hrel
    cases gk with
    | zero => exact absurd HA.out (by simp [wire_Pack.l0])
    | succ k1 =>
     have H := HA.out
     clear HA
     simp only [wire_Pack.l0] at H
     by_cases c7 : x14_1 < (l0.length : Int)
     ·rw [if_pos c7] at H
      have c7b0 : decide (x14_1 < (l0.length : Int)) = true := decide_eq_true c7
      clear c7
      by_cases c8 : 0 ≤ x14_1
      ·rw [if_pos c8] at H
       have c8b0 : decide (0 ≤ x14_1) = true := decide_eq_true c8
       clear c8
       by_cases c9 : x14_1 < (l0.length : Int)
       ·rw [if_pos c9] at H
        have c9b0 : decide (x14_1 < (l0.length : Int)) = true := decide_eq_true c9
        clear c9
        by_cases c10 : (rd l0 x14_1) = 0
        ·rw [if_pos c10] at H
         have c10b0 : ((rd l0 x14_1) == 0) = true := beq_iff_eq.mpr c10
         have c10b1 : ((rd l0 x14_1) != 0) = false := bne_eq_false_iff_eq.mpr c10
         clear c10
         have H' := Aside0.mk H
         clear H
         have p134 : 0 ≤ (x14_1 : Int) := of_decide_eq_true (by first | (with_reducible assumption) | assumption)
         have q134 : x14_1 < (l0.length : Int) := of_decide_eq_true (by first | (with_reducible assumption) | assumption)
         obtain ⟨ad134, e134, hx134_0⟩ := Kd.at_int HR0.out x14_1 p134 q134
         cases e134
         replace hx134_0 := (HB.out.cell (World.block_lt_of_cell? w _ hx134_0)).trans hx134_0
         replace p134 := eq_true p134
         replace q134 := eq_true q134
         go_wp2
         go_roundg k1
         case measure => have := HK1.out; omega
         case rel => exact ⟨(x4_1), (wrap64 (x14_1 + 1)), (by first | rfl | (simp; done) | (simp [*]; done)), H', ⟨by have := HK1.out; omega⟩, ⟨kr_ HO_4⟩, ⟨bl0_ HB⟩⟩
        ·rw [if_neg c10] at H
         have c10b0 : ((rd l0 x14_1) == 0) = false := beq_eq_false_iff_ne.mpr c10
         have c10b1 : ((rd l0 x14_1) != 0) = true := bne_iff_ne.mpr c10
         by_cases c11 : (rd l0 x14_1) = 1
         ·rw [if_pos c11] at H
          have c11b0 : ((rd l0 x14_1) == 1) = true := beq_iff_eq.mpr c11
          have c11b1 : ((rd l0 x14_1) != 1) = false := bne_eq_false_iff_eq.mpr c11
          clear c11
          obtain ⟨ji12, hji12⟩ : ∃ j_ : Int, (wrap64 (Int.tdiv x14_1 8)) = j_ := ⟨_, rfl⟩
          replace H : (if 0 ≤ (ji12) then (if (ji12) < (x4_1.length : Int) then (if 0 ≤ (Int.tmod x14_1 8) then (wire_Pack.l0 k1 (x4_1.set ((ji12) : Int).toNat (Go.bits .or .u8 (rd x4_1 (ji12)) (shl .u8 1 (Int.tmod x14_1 8)))) l0 (l0.length : Int) (wrap64 (x14_1 + 1))) else (none)) else (none)) else (none)) = some (r1, r2) := by first | (rw [hji12] at H; exact H) | (simp only [hji12] at H ⊢; exact H)
          have hji12w : (IntKind.i64.wrap (Int.tdiv x14_1 8)) = ji12 := (i64_w _).trans hji12
          by_cases c13 : 0 ≤ (ji12)
          ·rw [if_pos c13] at H
           have c13b0 : decide (0 ≤ (ji12)) = true := decide_eq_true c13
           clear c13
           by_cases c14 : (ji12) < (x4_1.length : Int)
           ·rw [if_pos c14] at H
            have c14b0 : decide ((ji12) < (x4_1.length : Int)) = true := decide_eq_true c14
            clear c14
            obtain ⟨ji15, hji15⟩ : ∃ j_ : Int, (Int.tmod x14_1 8) = j_ := ⟨_, rfl⟩
            replace H : (if 0 ≤ (ji15) then (wire_Pack.l0 k1 (x4_1.set ((ji12) : Int).toNat (Go.bits .or .u8 (rd x4_1 (ji12)) (shl .u8 1 (ji15)))) l0 (l0.length : Int) (wrap64 (x14_1 + 1))) else (none)) = some (r1, r2) := by first | (rw [hji15] at H; exact H) | (simp only [hji15] at H ⊢; exact H)
            by_cases c16 : 0 ≤ (ji15)
            ·rw [if_pos c16] at H
             have c16b0 := eq_true c16
             have c16b1 : decide (0 ≤ (ji15)) = true := decide_eq_true c16
             clear c16
             obtain ⟨ji17, hji17⟩ : ∃ j_ : Int, (shl .u8 1 (ji15)) = j_ := ⟨_, rfl⟩
             replace H : (wire_Pack.l0 k1 (x4_1.set ((ji12) : Int).toNat (Go.bits .or .u8 (rd x4_1 (ji12)) (ji17))) l0 (l0.length : Int) (wrap64 (x14_1 + 1))) = some (r1, r2) := by first | (rw [hji17] at H; exact H) | (simp only [hji17] at H ⊢; exact H)
             have hji17_ : (IntKind.u8.wrap (1 * 2 ^ min (ji15).toNat 8)) = ji17 := hji17
             have hji17z : (ji15) ≤ 8 → (IntKind.u8.wrap (1 * 2 ^ (ji15).toNat)) = ji17 := shl_small hji17
             have hji17u : (IntKind.u8.wrap (2 ^ min (ji15).toNat 8)) = ji17 := by have h_ := hji17_; rw [Int.one_mul] at h_; exact h_
             have hji17v : (ji15) ≤ 8 → (IntKind.u8.wrap (2 ^ (ji15).toNat)) = ji17 := fun hle_ => by have h_ := hji17z hle_; rw [Int.one_mul] at h_; exact h_
             obtain ⟨y136, hy136⟩ : ∃ y_ : List Int, y_ = (x4_1.set ((ji12) : Int).toNat (Go.bits .or .u8 (rd x4_1 (ji12)) (ji17))) := ⟨_, rfl⟩
             replace H : (wire_Pack.l0 k1 y136 l0 (l0.length : Int) (wrap64 (x14_1 + 1))) = some (r1, r2) := by first | (rw [hy136]; with_reducible exact H) | (have H2_ := (Option.bind_some _ _).symm.trans H; rw [hy136]; with_reducible exact H2_) | (have H2_ := (Option.bind_some _ _).symm.trans H; with_reducible exact H2_) | with_reducible exact H | (rw [hy136]; exact H) | exact H
             have Ny136 := Aside0.mk hy136
             clear hy136
             have H' := Aside0.mk H
             clear H
             have p134 : 0 ≤ (x14_1 : Int) := of_decide_eq_true (by first | (with_reducible assumption) | assumption)
             have q134 : x14_1 < (l0.length : Int) := of_decide_eq_true (by first | (with_reducible assumption) | assumption)
             obtain ⟨ad134, e134, hx134_0⟩ := Kd.at_int HR0.out x14_1 p134 q134
             cases e134
             replace hx134_0 := (HB.out.cell (World.block_lt_of_cell? w _ hx134_0)).trans hx134_0
             replace p134 := eq_true p134
             replace q134 := eq_true q134
             try go_wp2
             have n0_ := Aside0.mk (Kd.R_drew HO_4.out)
             have n1_ := Aside0.mk (below_drew1 HB.out)
             clear HO_4
             clear HB
             have HO_4 := n0_
             have HB := n1_
             clear n0_ n1_
             obtain ⟨Ao20, co20, eo20⟩ := Kd.R_slice HO_4.out
             (first | subst eo20 | (injection eo20 with f1_ f2_ f3_; have f4_ := f1_.symm; have f5_ := f3_.symm; clear f1_ f2_ f3_; subst f4_; subst f5_))
             have p135 : 0 ≤ ((ji12) : Int) := of_decide_eq_true (by first | (with_reducible assumption) | assumption)
             have q135 : (ji12) < (x4_1.length : Int) := of_decide_eq_true (by first | (with_reducible assumption) | assumption)
             obtain ⟨ad135, e135, hx135_0⟩ := Kd.at_int (Kd.R_reads' HO_4.out).2.2 (ji12) p135 q135
             cases e135
             replace p135 := eq_true p135
             replace q135 := eq_true q135
             have p18 : 0 ≤ ((ji12) : Int) := of_decide_eq_true (by first | (with_reducible assumption) | assumption)
             have q18 : ((ji12) : Int) < ((x4_1.length : Int) : Int) := of_decide_eq_true (by first | (with_reducible assumption) | assumption)
             obtain ⟨go18, co18, eo18, gb18, gl18, cl18, HG18⟩ := Kd.R_form HO_4.out (by omega)
             (first | cases eo18 | (injection eo18 with ea_ en_ ec_; (first | subst ea_ | (injection ea_ with ea_; subst ea_)); subst ec_; clear en_))
             have GB18 := Aside0.mk gb18
             have GG18 := Aside0.mk HG18
             clear gb18 gl18 HG18
             (first | simp only [add_plain] at hx135_0 | skip)
             obtain ⟨hx18_0, hf18_0⟩ := Kd.R_celln 0 HO_4.out ((ji12) : Int) p18 q18
             replace p18 := eq_true p18
             replace q18 := eq_true q18
             have HP21 := Kd.R_putn HO_4.out ((ji12) : Int) (Go.bits .or .u8 (rd x4_1 (ji12)) (ji17))
             rw [← Ny136.out] at HP21
             have HQ21 := Aside0.mk HP21
             clear HP21
             refine start_ (n := 11) (S := fun w' => w'.cell? ⟨go18, ((ji12)).toNat, none⟩ = some (.int .u8 (rd x4_1 (ji12)))) (ds := [10]) #[false, false, false, false, false, false, false, false, false, false, false] (by kernel_rfl) rfl rfl (hx135_0) (fun hHeld => ?_); refine with_tabW wire_Pack.tab9 wire_Pack.bits9 (fun HT_ HW_ => ?_)
             generalize wr.drew = w19 at HO_4 HB GG18 HQ21 hf18_0 hx135_0 hx18_0 hHeld ⊢
             refine pure_ (i := 0) (N := some 24) (v := ?_) (a' := ?_) #[true, false, false, false, false, false, false, false, false, false, false] rfl rfl (any_of HT_.out (by kernel_rfl)) (fun _ _ _ h => h) (Or.inl ⟨by rfl, ?_⟩) ?_ ?_
             rotate_left
             ·intro w'
              go_simp
              with_reducible rfl
             rotate_left
             ·simp only [Act.put, List.setIfInBounds_toArray, List.set_cons_zero, List.set_cons_succ, i64_w, i32_w]
              rfl
             refine pure_ (i := 1) (N := some 25) (v := ?_) (a' := ?_) #[true, true, false, false, false, false, false, false, false, false, false] rfl rfl (any_of HT_.out (by kernel_rfl)) (fun _ _ _ h => h) (Or.inl ⟨by rfl, ?_⟩) ?_ ?_
             rotate_left
             ·intro w'
              go_simp
              with_reducible rfl
             rotate_left
             ·simp only [Act.put, List.setIfInBounds_toArray, List.set_cons_zero, List.set_cons_succ, i64_w, i32_w]
              rfl
             refine pure_ (i := 2) (N := some 26) (v := ?_) (a' := ?_) #[true, true, true, false, false, false, false, false, false, false, false] rfl rfl (any_of HT_.out (by kernel_rfl)) (fun _ _ _ h => h) (Or.inl ⟨by rfl, ?_⟩) ?_ ?_
             rotate_left
             ·intro w'
              go_simp
              with_reducible rfl
             rotate_left
             ·simp only [Act.put, List.setIfInBounds_toArray, List.set_cons_zero, List.set_cons_succ, i64_w, i32_w]
              rfl
             refine pure_ (i := 3) (N := some 27) (v := ?_) (a' := ?_) #[true, true, true, true, false, false, false, false, false, false, false] rfl rfl (any_of HT_.out (by kernel_rfl)) (fun _ _ _ h => h) (Or.inl ⟨by rfl, ?_⟩) ?_ ?_
             rotate_left
             ·intro w'
              go_simp
              with_reducible rfl
             rotate_left
             ·simp only [Act.put, List.setIfInBounds_toArray, List.set_cons_zero, List.set_cons_succ, i64_w, i32_w]
              rfl
             refine pure_ (i := 5) (N := some 29) (v := ?_) (a' := ?_) #[true, true, true, true, false, true, false, false, false, false, false] rfl rfl (any_of HT_.out (by kernel_rfl)) (fun _ _ _ h => h) (Or.inl ⟨by rfl, ?_⟩) ?_ ?_
             rotate_left
             ·intro w'
              go_simp
              with_reducible rfl
             rotate_left
             ·simp only [Act.put, List.setIfInBounds_toArray, List.set_cons_zero, List.set_cons_succ, i64_w, i32_w]
              rfl
             refine pure_ (i := 6) (N := some 30) (v := ?_) (a' := ?_) #[true, true, true, true, false, true, true, false, false, false, false] rfl rfl (any_of HT_.out (by kernel_rfl)) (fun _ _ _ h => h) (Or.inl ⟨by rfl, ?_⟩) ?_ ?_
             rotate_left
             ·intro w'
              go_simp
              with_reducible rfl
             rotate_left
             ·simp only [Act.put, List.setIfInBounds_toArray, List.set_cons_zero, List.set_cons_succ, i64_w, i32_w]
              rfl
             refine pure_ (i := 7) (N := some 31) (v := ?_) (a' := ?_) #[true, true, true, true, false, true, true, true, false, false, false] rfl rfl (any_of HT_.out (by kernel_rfl)) (fun _ _ _ h => h) (Or.inl ⟨by rfl, ?_⟩) ?_ ?_
             rotate_left
             ·intro w'
              go_simp
              with_reducible rfl
             rotate_left
             ·simp only [Act.put, List.setIfInBounds_toArray, List.set_cons_zero, List.set_cons_succ, i64_w, i32_w]
              rfl
             refine take_ (i := 4) (N := some 28) (v := ?_) (a' := ?_) #[true, true, true, true, true, true, true, true, false, false, false] rfl rfl (take_ofW HT_.out HW_.out (by kernel_rfl)) (fun _ _ _ h => h) (Or.inl ⟨by rfl, ?_⟩) hHeld ?_ ?_
             rotate_left
             ·intro w' s0
              go_simp
              with_reducible rfl
             rotate_left
             ·simp only [Act.put, List.setIfInBounds_toArray, List.set_cons_zero, List.set_cons_succ, i64_w, i32_w]
              rfl
             refine pure_ (i := 8) (N := some 32) (v := ?_) (a' := ?_) #[true, true, true, true, true, true, true, true, true, false, false] rfl rfl (any_of HT_.out (by kernel_rfl)) (fun _ _ _ h => h) (Or.inl ⟨by rfl, ?_⟩) ?_ ?_
             rotate_left
             ·intro w'
              go_simp
              with_reducible rfl
             rotate_left
             ·simp only [Act.put, List.setIfInBounds_toArray, List.set_cons_zero, List.set_cons_succ, i64_w, i32_w]
              rfl
             refine pure_ (i := 9) (N := some 33) (v := ?_) (a' := ?_) #[true, true, true, true, true, true, true, true, true, true, false] rfl rfl (any_of HT_.out (by kernel_rfl)) (fun _ _ _ h => h) (Or.inl ⟨by rfl, ?_⟩) ?_ ?_
             rotate_left
             ·intro w'
              go_simp
              with_reducible rfl
             rotate_left
             ·simp only [Act.put, List.setIfInBounds_toArray, List.set_cons_zero, List.set_cons_succ, i64_w, i32_w]
              rfl
             refine last_ (i := 10) (N := none) #[true, true, true, true, true, true, true, true, true, true, true] rfl rfl (one_of HT_.out (by kernel_rfl)) (by decide) (fun K hK => ?_)
             refine skip_ (w1 := ?_) (by rfl) rfl ?_ ?_
             rotate_left
             ·go_simp
              rfl
             refine hK.out _ _ ?_
             clear hK K
             refine done_ (done_of HT_.out (by kernel_rfl)) ?_
             try go_wp2
             go_roundg k1
             case measure => have := HK1.out; omega
             case rel => exact ⟨(y136), (wrap64 (x14_1 + 1)), (by first | rfl | (simp; done) | (simp [*]; done)), H', ⟨by have := HK1.out; omega⟩, ⟨kr_ HQ21⟩, ⟨by repeat (first | (with_reducible first | exact HB.out | apply below_alloc | apply pw_below_drewN | apply below_drew1 | refine below_set ?_ GB18.out) | exact HB.out)⟩⟩
            ·rw [if_neg c16] at H
             exact absurd H (by simp)
           ·rw [if_neg c14] at H
            exact absurd H (by simp)
          ·rw [if_neg c13] at H
           exact absurd H (by simp)
         ·rw [if_neg c11] at H
          have c11b0 : ((rd l0 x14_1) == 1) = false := beq_eq_false_iff_ne.mpr c11
          have c11b1 : ((rd l0 x14_1) != 1) = true := bne_iff_ne.mpr c11
          simp only [Option.some.injEq, Prod.mk.injEq] at H
          obtain ⟨rfl, rfl⟩ := H
          have p134 : 0 ≤ (x14_1 : Int) := of_decide_eq_true (by first | (with_reducible assumption) | assumption)
          have q134 : x14_1 < (l0.length : Int) := of_decide_eq_true (by first | (with_reducible assumption) | assumption)
          obtain ⟨ad134, e134, hx134_0⟩ := Kd.at_int HR0.out x14_1 p134 q134
          cases e134
          replace hx134_0 := (HB.out.cell (World.block_lt_of_cell? w _ hx134_0)).trans hx134_0
          replace p134 := eq_true p134
          replace q134 := eq_true q134
          go_wp2
          go_ret2
          exact ⟨_, by first | rfl | (simp [errW_none, errW_some] <;> rfl) | (simp only [← hji2]; first | rfl | (simp [errW_none, errW_some] <;> rfl)) | (simp [*, errW_none, errW_some] <;> rfl), by first | exact Kd.R_nil _ _ _ _ _ | exact Kd.N_nil _ _ _ _ _ | exact Kd.V_nil _ _ _ _ _ | exact Kd.Q_nil _ _ _ _ _ | exact Kd.S_nil _ _ _ _ _, bl0_ HB⟩
       ·rw [if_neg c9] at H
        exact absurd H (by simp)
      ·rw [if_neg c8] at H
       exact absurd H (by simp)
     ·rw [if_neg c7] at H
      have c7b0 : decide (x14_1 < (l0.length : Int)) = false := decide_eq_false c7
      clear c7
      simp only [Option.some.injEq, Prod.mk.injEq] at H
      obtain ⟨rfl, rfl⟩ := H
      go_wp2
      go_ret2
      exact ⟨_, by first | rfl | (simp [errW_none, errW_some] <;> rfl) | (simp only [← hji2]; first | rfl | (simp [errW_none, errW_some] <;> rfl)) | (simp [*, errW_none, errW_some] <;> rfl), kr_ HO_4, bl0_ HB⟩
  ·rw [if_neg c4] at H
   exact absurd H (by simp)
 ·rw [if_neg c3] at H
  exact absurd H (by simp)
end Go.Proofs.Ytlalpooiegganaa.PG
end

section
namespace Go.Proofs.Ytlalpooiegganaa.PG
open Go.RowKit Go.Proofs.YtlalpooiegganaaW.PrintWords Go.Proofs.YtlalpooiegganaaW.PrintLast Go.Proofs.YtlalpooiegganaaW.PrintMore
attribute [local go_sem] max2_int min2_int max_two min_two max_three min_three max_four min_four   
set_option linter.unusedVariables false
set_option linter.unusedSimpArgs false
open Go.Proofs.Ytlalpooiegganaa.Ext Go.Proofs.Ytlalpooiegganaa.PP Go.Proofs.Ytlalpooiegganaa.ExtF Go.Proofs.Ytlalpooiegganaa.ExtM
def pdu_packed.f (k : Nat) (l0 : List Int) : Option (List Int) := (wire_Pack.f k l0).bind fun bt137 => (some bt137.1)
theorem pdu_packed.mono : ∀ a0 k, LeO (pdu_packed.f k a0) (pdu_packed.f (k + 1) a0) := by
 intro a0 k
 unfold pdu_packed.f
 repeat' first
  | (with_reducible exact wire_Pack.mono _ _)
  | (with_reducible exact LeO.refl _)
  | (with_reducible exact LeO.none _)
  | (with_reducible refine LeO.ite ?_ ?_)
  | (with_reducible refine LeO.bind ?_ (fun _ => ?_))
  | exact wire_Pack.mono _ _
  | exact LeO.none _
  | refine LeO.ite ?_ ?_
  | refine LeO.bind ?_ (fun _ => ?_)
set_option maxHeartbeats 8000000 in
set_option maxRecDepth 100000 in
theorem pdu_packed.calls (k : Nat) (A0 : Option Addr) (c0 : Nat) (l0 : List Int) (r : List Int) (w : World) (hr0 : Kd.C (Kd.int .i64) w A0 l0.length l0) (hc0 : l0.length ≤ c0) (h : pdu_packed.f k l0 = some r) :
 Calls Try.prog 62 #[.slice A0 l0.length c0] w fun e w' => ∃ v0_ : Value, e = .returned (v0_) ∧ Kd.R (Kd.int .u8) 5 w' w.heap.size (fun _ => True) v0_ r ∧ Below w.heap.size w w' := by
 have HR0 := Aside0.mk hr0
 have HC0 := Aside0.mk hc0
 clear hr0 hc0
 have HB := Aside0.mk (Below.refl w.heap.size w)
 have H : ((wire_Pack.f k l0).bind fun bt137 => (some bt137.1)) = some r := h
 clear h
 replace H := Option.bind_eq_some_iff.mp H
 obtain ⟨⟨t137, t138⟩, A20, H⟩ := H
 replace H : (some t137) = some r := H
 have A2 := Aside0.mk A20
 clear A20
 obtain rfl := Option.some.inj H
 go_enter Try.func62, Try.ntmps62
 go_wp2_with (first | ((with_reducible refine gate_callee (f := 68) rfl ?_); refine goesL_ (some 7) rfl rfl Try.func68 (by kernel_rfl) rfl #[.slice A0 l0.length c0] rfl ar_ ?_; (with_reducible refine (wire_Pack.calls k _ _ l0 t137 t138 _ ?side1 ?side2 A2.out).mono ?_); (case side1 => repeat (first | exact HR0.out | (with_reducible refine Kd.C_alloc ?_ _) | (with_reducible refine Kd.C_drewN ?_ _) | (with_reducible refine Kd.C_drew ?_))); (case side2 => exact HC0.out); rintro e w3 ⟨v139, rfl, ho0, hb⟩; refine ⟨_, rfl, ?_⟩; have n0_ := Aside0.mk (Kd.R_lower ho0 (below_size (bl0_ HB))); have n1_ := Aside0.mk (below_step (bl0_ HB) hb); clear HB; have HO140 := n0_; have HB := n1_; clear n0_ n1_; (try clear hb); (try clear hb2); (try clear hk); (try clear hi); (try clear ho0)))
 go_ret
 exact ⟨_, er_, kr_ HO140, bl0_ HB⟩
end Go.Proofs.Ytlalpooiegganaa.PG
end

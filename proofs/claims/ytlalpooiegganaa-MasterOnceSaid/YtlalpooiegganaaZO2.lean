/- The words, contracts and walks that this claim leans on, put together by a program of this session (part 2). -/
import Derived.Test.YtlalpooiegganaaZO1
import Derived.Lib.AppendZerosOnto
import Derived.WalkMore
import Derived.Deep.DeepMust
section
namespace Go.Proofs.Ytlalpooiegganaa.Chk
open Go.RowKit Go.Proofs.YtlalpooiegganaaW.PrintWords Go.Proofs.YtlalpooiegganaaW.PrintLast Go.Proofs.YtlalpooiegganaaW.PrintMore Go.Proofs.Ytlalpooiegganaa.Core Go.Proofs.Ytlalpooiegganaa.Wk
set_option linter.unusedVariables false
set_option linter.unusedSimpArgs false
set_option maxHeartbeats 4000000 in
set_option maxRecDepth 100000 in
theorem may_15 (a c : Int) (A : Option Addr) (cc : Nat) (v : List Int) (t n o : Int) (w : World) (hV : Kd.C (Kd.int .i64) w A v.length v) : Calls Try.prog 10 #[.agg #[.int .i64 15, .int .i64 a, .int .i64 c, .slice A v.length cc, .int .i64 t, .int .i64 n, .int .i64 o]] w fun e w' => e = .returned (.bool (chkB 15 a c v t n o)) ∧ Below w.heap.size w w' := by
 have HV := Aside0.mk hV; clear hV
 by_cases hz0 : (n == 0) = true
 ·have z0 : (n == 0) = true := hz0; clear hz0
  by_cases hz1 : (o == 0) = true
  ·have z1 : (o == 0) = true := hz1; clear hz1
   by_cases hz2 : (t == 0) = true
   ·have z2 : (t == 0) = true := hz2; clear hz2
    by_cases hz3 : (c == (v.length : Int)) = true
    ·have z3 : (c == (v.length : Int)) = true := hz3; clear hz3
     by_cases hz4 : smB 1 1968 1 v = true
     ·have z4 : smB 1 1968 1 v = true := hz4; clear hz4; have pz4 := smB_len z4
      by_cases hz5 : spB a v.length = true
      ·have z5 : spB a v.length = true := hz5; clear hz5
       have HR : Aside0 (chkB 15 a c v t n o = true) := ⟨by simp_all [chkB, wB] <;> (intros; omega)⟩
       rw [HR.out]
       go_enter Try.func10, Try.ntmps10
       go_wp2_with (first | ((with_reducible refine gate_dst (N := 1) rfl ?_); refine bx_ (N := 1) (cs := #[.int .i64 15, .int .i64 a, .int .i64 c, .slice A v.length cc, .int .i64 t, .int .i64 n, .int .i64 o]) (t := 31) ?_; intro g hg w1 hb HB; have XB := Aside0.mk HB; have BK := Aside0.mk hb; obtain ⟨k0, k1, k2, k3, k4, k5, k6⟩ := cells7 hb; clear hg hb HB) | (go_at_call 28; refine (is_c _ _).mono ?_; rintro e w' ⟨rfl, rfl⟩) | (go_at_call 26; refine (refspan_c _ _ _ (by omega) (by omega)).mono ?_; rintro e w' ⟨rfl, rfl⟩) | (go_at_call 27; refine (vals_c 15 a c A cc v t n o _ _ _ (Kd.C_below HV.out XB.out) (m := 1) (by decide)).mono ?_; rintro e w2 ⟨rfl, HB⟩; have XBn := Aside0.mk (below_step XB.out HB); have BKn := Aside0.mk (blk_below BK.out HB); obtain ⟨k0, k1, k2, k3, k4, k5, k6⟩ := cells7 BKn.out; clear HB XB BK; have XB := XBn; have BK := BKn))
       go_ret
       exact ⟨rfl, XB.out⟩
      ·have z5 : spB a v.length = false := by simpa using hz5
       clear hz5
       have HR : Aside0 (chkB 15 a c v t n o = false) := ⟨by simp_all [chkB, wB] <;> (intros; omega)⟩
       rw [HR.out]
       go_enter Try.func10, Try.ntmps10
       go_wp2_with (first | ((with_reducible refine gate_dst (N := 1) rfl ?_); refine bx_ (N := 1) (cs := #[.int .i64 15, .int .i64 a, .int .i64 c, .slice A v.length cc, .int .i64 t, .int .i64 n, .int .i64 o]) (t := 31) ?_; intro g hg w1 hb HB; have XB := Aside0.mk HB; have BK := Aside0.mk hb; obtain ⟨k0, k1, k2, k3, k4, k5, k6⟩ := cells7 hb; clear hg hb HB) | (go_at_call 28; refine (is_c _ _).mono ?_; rintro e w' ⟨rfl, rfl⟩) | (go_at_call 26; refine (refspan_c _ _ _ (by omega) (by omega)).mono ?_; rintro e w' ⟨rfl, rfl⟩) | (go_at_call 27; refine (vals_c 15 a c A cc v t n o _ _ _ (Kd.C_below HV.out XB.out) (m := 1) (by decide)).mono ?_; rintro e w2 ⟨rfl, HB⟩; have XBn := Aside0.mk (below_step XB.out HB); have BKn := Aside0.mk (blk_below BK.out HB); obtain ⟨k0, k1, k2, k3, k4, k5, k6⟩ := cells7 BKn.out; clear HB XB BK; have XB := XBn; have BK := BKn))
       go_ret
       exact ⟨rfl, XB.out⟩
     ·have z4 : smB 1 1968 1 v = false := by simpa using hz4
      clear hz4
      have HR : Aside0 (chkB 15 a c v t n o = false) := ⟨by simp_all [chkB, wB] <;> (intros; omega)⟩
      rw [HR.out]
      go_enter Try.func10, Try.ntmps10
      go_wp2_with (first | ((with_reducible refine gate_dst (N := 1) rfl ?_); refine bx_ (N := 1) (cs := #[.int .i64 15, .int .i64 a, .int .i64 c, .slice A v.length cc, .int .i64 t, .int .i64 n, .int .i64 o]) (t := 31) ?_; intro g hg w1 hb HB; have XB := Aside0.mk HB; have BK := Aside0.mk hb; obtain ⟨k0, k1, k2, k3, k4, k5, k6⟩ := cells7 hb; clear hg hb HB) | (go_at_call 28; refine (is_c _ _).mono ?_; rintro e w' ⟨rfl, rfl⟩) | (go_at_call 26; refine (refspan_c _ _ _ (by omega) (by omega)).mono ?_; rintro e w' ⟨rfl, rfl⟩) | (go_at_call 27; refine (vals_c 15 a c A cc v t n o _ _ _ (Kd.C_below HV.out XB.out) (m := 1) (by decide)).mono ?_; rintro e w2 ⟨rfl, HB⟩; have XBn := Aside0.mk (below_step XB.out HB); have BKn := Aside0.mk (blk_below BK.out HB); obtain ⟨k0, k1, k2, k3, k4, k5, k6⟩ := cells7 BKn.out; clear HB XB BK; have XB := XBn; have BK := BKn))
      go_ret
      exact ⟨rfl, XB.out⟩
    ·have z3 : (c == (v.length : Int)) = false := by simpa using hz3
     clear hz3
     have HR : Aside0 (chkB 15 a c v t n o = false) := ⟨by simp_all [chkB, wB] <;> (intros; omega)⟩
     rw [HR.out]
     go_enter Try.func10, Try.ntmps10
     go_wp2_with (first | ((with_reducible refine gate_dst (N := 1) rfl ?_); refine bx_ (N := 1) (cs := #[.int .i64 15, .int .i64 a, .int .i64 c, .slice A v.length cc, .int .i64 t, .int .i64 n, .int .i64 o]) (t := 31) ?_; intro g hg w1 hb HB; have XB := Aside0.mk HB; have BK := Aside0.mk hb; obtain ⟨k0, k1, k2, k3, k4, k5, k6⟩ := cells7 hb; clear hg hb HB) | (go_at_call 28; refine (is_c _ _).mono ?_; rintro e w' ⟨rfl, rfl⟩) | (go_at_call 26; refine (refspan_c _ _ _ (by omega) (by omega)).mono ?_; rintro e w' ⟨rfl, rfl⟩) | (go_at_call 27; refine (vals_c 15 a c A cc v t n o _ _ _ (Kd.C_below HV.out XB.out) (m := 1) (by decide)).mono ?_; rintro e w2 ⟨rfl, HB⟩; have XBn := Aside0.mk (below_step XB.out HB); have BKn := Aside0.mk (blk_below BK.out HB); obtain ⟨k0, k1, k2, k3, k4, k5, k6⟩ := cells7 BKn.out; clear HB XB BK; have XB := XBn; have BK := BKn))
     go_ret
     exact ⟨rfl, XB.out⟩
   ·have z2 : (t == 0) = false := by simpa using hz2
    clear hz2
    have HR : Aside0 (chkB 15 a c v t n o = false) := ⟨by simp_all [chkB, wB] <;> (intros; omega)⟩
    rw [HR.out]
    go_enter Try.func10, Try.ntmps10
    go_wp2_with (first | ((with_reducible refine gate_dst (N := 1) rfl ?_); refine bx_ (N := 1) (cs := #[.int .i64 15, .int .i64 a, .int .i64 c, .slice A v.length cc, .int .i64 t, .int .i64 n, .int .i64 o]) (t := 31) ?_; intro g hg w1 hb HB; have XB := Aside0.mk HB; have BK := Aside0.mk hb; obtain ⟨k0, k1, k2, k3, k4, k5, k6⟩ := cells7 hb; clear hg hb HB) | (go_at_call 28; refine (is_c _ _).mono ?_; rintro e w' ⟨rfl, rfl⟩) | (go_at_call 26; refine (refspan_c _ _ _ (by omega) (by omega)).mono ?_; rintro e w' ⟨rfl, rfl⟩) | (go_at_call 27; refine (vals_c 15 a c A cc v t n o _ _ _ (Kd.C_below HV.out XB.out) (m := 1) (by decide)).mono ?_; rintro e w2 ⟨rfl, HB⟩; have XBn := Aside0.mk (below_step XB.out HB); have BKn := Aside0.mk (blk_below BK.out HB); obtain ⟨k0, k1, k2, k3, k4, k5, k6⟩ := cells7 BKn.out; clear HB XB BK; have XB := XBn; have BK := BKn))
    go_ret
    exact ⟨rfl, XB.out⟩
  ·have z1 : (o == 0) = false := by simpa using hz1
   clear hz1
   have HR : Aside0 (chkB 15 a c v t n o = false) := ⟨by simp_all [chkB, wB] <;> (intros; omega)⟩
   rw [HR.out]
   go_enter Try.func10, Try.ntmps10
   go_wp2_with (first | ((with_reducible refine gate_dst (N := 1) rfl ?_); refine bx_ (N := 1) (cs := #[.int .i64 15, .int .i64 a, .int .i64 c, .slice A v.length cc, .int .i64 t, .int .i64 n, .int .i64 o]) (t := 31) ?_; intro g hg w1 hb HB; have XB := Aside0.mk HB; have BK := Aside0.mk hb; obtain ⟨k0, k1, k2, k3, k4, k5, k6⟩ := cells7 hb; clear hg hb HB) | (go_at_call 28; refine (is_c _ _).mono ?_; rintro e w' ⟨rfl, rfl⟩) | (go_at_call 26; refine (refspan_c _ _ _ (by omega) (by omega)).mono ?_; rintro e w' ⟨rfl, rfl⟩) | (go_at_call 27; refine (vals_c 15 a c A cc v t n o _ _ _ (Kd.C_below HV.out XB.out) (m := 1) (by decide)).mono ?_; rintro e w2 ⟨rfl, HB⟩; have XBn := Aside0.mk (below_step XB.out HB); have BKn := Aside0.mk (blk_below BK.out HB); obtain ⟨k0, k1, k2, k3, k4, k5, k6⟩ := cells7 BKn.out; clear HB XB BK; have XB := XBn; have BK := BKn))
   go_ret
   exact ⟨rfl, XB.out⟩
 ·have z0 : (n == 0) = false := by simpa using hz0
  clear hz0
  have HR : Aside0 (chkB 15 a c v t n o = false) := ⟨by simp_all [chkB, wB] <;> (intros; omega)⟩
  rw [HR.out]
  go_enter Try.func10, Try.ntmps10
  go_wp2_with (first | ((with_reducible refine gate_dst (N := 1) rfl ?_); refine bx_ (N := 1) (cs := #[.int .i64 15, .int .i64 a, .int .i64 c, .slice A v.length cc, .int .i64 t, .int .i64 n, .int .i64 o]) (t := 31) ?_; intro g hg w1 hb HB; have XB := Aside0.mk HB; have BK := Aside0.mk hb; obtain ⟨k0, k1, k2, k3, k4, k5, k6⟩ := cells7 hb; clear hg hb HB) | (go_at_call 28; refine (is_c _ _).mono ?_; rintro e w' ⟨rfl, rfl⟩) | (go_at_call 26; refine (refspan_c _ _ _ (by omega) (by omega)).mono ?_; rintro e w' ⟨rfl, rfl⟩) | (go_at_call 27; refine (vals_c 15 a c A cc v t n o _ _ _ (Kd.C_below HV.out XB.out) (m := 1) (by decide)).mono ?_; rintro e w2 ⟨rfl, HB⟩; have XBn := Aside0.mk (below_step XB.out HB); have BKn := Aside0.mk (blk_below BK.out HB); obtain ⟨k0, k1, k2, k3, k4, k5, k6⟩ := cells7 BKn.out; clear HB XB BK; have XB := XBn; have BK := BKn))
  go_ret
  exact ⟨rfl, XB.out⟩
set_option maxHeartbeats 4000000 in
set_option maxRecDepth 100000 in
theorem may_16 (a c : Int) (A : Option Addr) (cc : Nat) (v : List Int) (t n o : Int) (w : World) (hV : Kd.C (Kd.int .i64) w A v.length v) : Calls Try.prog 10 #[.agg #[.int .i64 16, .int .i64 a, .int .i64 c, .slice A v.length cc, .int .i64 t, .int .i64 n, .int .i64 o]] w fun e w' => e = .returned (.bool (chkB 16 a c v t n o)) ∧ Below w.heap.size w w' := by
 have HV := Aside0.mk hV; clear hV
 by_cases hz0 : (n == 0) = true
 ·have z0 : (n == 0) = true := hz0; clear hz0
  by_cases hz1 : (o == 0) = true
  ·have z1 : (o == 0) = true := hz1; clear hz1
   by_cases hz2 : (t == 0) = true
   ·have z2 : (t == 0) = true := hz2; clear hz2
    by_cases hz3 : (c == (v.length : Int)) = true
    ·have z3 : (c == (v.length : Int)) = true := hz3; clear hz3
     by_cases hz4 : smB 1 123 65535 v = true
     ·have z4 : smB 1 123 65535 v = true := hz4; clear hz4; have pz4 := smB_len z4
      by_cases hz5 : spB a v.length = true
      ·have z5 : spB a v.length = true := hz5; clear hz5
       have HR : Aside0 (chkB 16 a c v t n o = true) := ⟨by simp_all [chkB, wB] <;> (intros; omega)⟩
       rw [HR.out]
       go_enter Try.func10, Try.ntmps10
       go_wp2_with (first | ((with_reducible refine gate_dst (N := 1) rfl ?_); refine bx_ (N := 1) (cs := #[.int .i64 16, .int .i64 a, .int .i64 c, .slice A v.length cc, .int .i64 t, .int .i64 n, .int .i64 o]) (t := 31) ?_; intro g hg w1 hb HB; have XB := Aside0.mk HB; have BK := Aside0.mk hb; obtain ⟨k0, k1, k2, k3, k4, k5, k6⟩ := cells7 hb; clear hg hb HB) | (go_at_call 28; refine (is_c _ _).mono ?_; rintro e w' ⟨rfl, rfl⟩) | (go_at_call 26; refine (refspan_c _ _ _ (by omega) (by omega)).mono ?_; rintro e w' ⟨rfl, rfl⟩) | (go_at_call 27; refine (vals_c 16 a c A cc v t n o _ _ _ (Kd.C_below HV.out XB.out) (m := 65535) (by decide)).mono ?_; rintro e w2 ⟨rfl, HB⟩; have XBn := Aside0.mk (below_step XB.out HB); have BKn := Aside0.mk (blk_below BK.out HB); obtain ⟨k0, k1, k2, k3, k4, k5, k6⟩ := cells7 BKn.out; clear HB XB BK; have XB := XBn; have BK := BKn))
       go_ret
       exact ⟨rfl, XB.out⟩
      ·have z5 : spB a v.length = false := by simpa using hz5
       clear hz5
       have HR : Aside0 (chkB 16 a c v t n o = false) := ⟨by simp_all [chkB, wB] <;> (intros; omega)⟩
       rw [HR.out]
       go_enter Try.func10, Try.ntmps10
       go_wp2_with (first | ((with_reducible refine gate_dst (N := 1) rfl ?_); refine bx_ (N := 1) (cs := #[.int .i64 16, .int .i64 a, .int .i64 c, .slice A v.length cc, .int .i64 t, .int .i64 n, .int .i64 o]) (t := 31) ?_; intro g hg w1 hb HB; have XB := Aside0.mk HB; have BK := Aside0.mk hb; obtain ⟨k0, k1, k2, k3, k4, k5, k6⟩ := cells7 hb; clear hg hb HB) | (go_at_call 28; refine (is_c _ _).mono ?_; rintro e w' ⟨rfl, rfl⟩) | (go_at_call 26; refine (refspan_c _ _ _ (by omega) (by omega)).mono ?_; rintro e w' ⟨rfl, rfl⟩) | (go_at_call 27; refine (vals_c 16 a c A cc v t n o _ _ _ (Kd.C_below HV.out XB.out) (m := 65535) (by decide)).mono ?_; rintro e w2 ⟨rfl, HB⟩; have XBn := Aside0.mk (below_step XB.out HB); have BKn := Aside0.mk (blk_below BK.out HB); obtain ⟨k0, k1, k2, k3, k4, k5, k6⟩ := cells7 BKn.out; clear HB XB BK; have XB := XBn; have BK := BKn))
       go_ret
       exact ⟨rfl, XB.out⟩
     ·have z4 : smB 1 123 65535 v = false := by simpa using hz4
      clear hz4
      have HR : Aside0 (chkB 16 a c v t n o = false) := ⟨by simp_all [chkB, wB] <;> (intros; omega)⟩
      rw [HR.out]
      go_enter Try.func10, Try.ntmps10
      go_wp2_with (first | ((with_reducible refine gate_dst (N := 1) rfl ?_); refine bx_ (N := 1) (cs := #[.int .i64 16, .int .i64 a, .int .i64 c, .slice A v.length cc, .int .i64 t, .int .i64 n, .int .i64 o]) (t := 31) ?_; intro g hg w1 hb HB; have XB := Aside0.mk HB; have BK := Aside0.mk hb; obtain ⟨k0, k1, k2, k3, k4, k5, k6⟩ := cells7 hb; clear hg hb HB) | (go_at_call 28; refine (is_c _ _).mono ?_; rintro e w' ⟨rfl, rfl⟩) | (go_at_call 26; refine (refspan_c _ _ _ (by omega) (by omega)).mono ?_; rintro e w' ⟨rfl, rfl⟩) | (go_at_call 27; refine (vals_c 16 a c A cc v t n o _ _ _ (Kd.C_below HV.out XB.out) (m := 65535) (by decide)).mono ?_; rintro e w2 ⟨rfl, HB⟩; have XBn := Aside0.mk (below_step XB.out HB); have BKn := Aside0.mk (blk_below BK.out HB); obtain ⟨k0, k1, k2, k3, k4, k5, k6⟩ := cells7 BKn.out; clear HB XB BK; have XB := XBn; have BK := BKn))
      go_ret
      exact ⟨rfl, XB.out⟩
    ·have z3 : (c == (v.length : Int)) = false := by simpa using hz3
     clear hz3
     have HR : Aside0 (chkB 16 a c v t n o = false) := ⟨by simp_all [chkB, wB] <;> (intros; omega)⟩
     rw [HR.out]
     go_enter Try.func10, Try.ntmps10
     go_wp2_with (first | ((with_reducible refine gate_dst (N := 1) rfl ?_); refine bx_ (N := 1) (cs := #[.int .i64 16, .int .i64 a, .int .i64 c, .slice A v.length cc, .int .i64 t, .int .i64 n, .int .i64 o]) (t := 31) ?_; intro g hg w1 hb HB; have XB := Aside0.mk HB; have BK := Aside0.mk hb; obtain ⟨k0, k1, k2, k3, k4, k5, k6⟩ := cells7 hb; clear hg hb HB) | (go_at_call 28; refine (is_c _ _).mono ?_; rintro e w' ⟨rfl, rfl⟩) | (go_at_call 26; refine (refspan_c _ _ _ (by omega) (by omega)).mono ?_; rintro e w' ⟨rfl, rfl⟩) | (go_at_call 27; refine (vals_c 16 a c A cc v t n o _ _ _ (Kd.C_below HV.out XB.out) (m := 65535) (by decide)).mono ?_; rintro e w2 ⟨rfl, HB⟩; have XBn := Aside0.mk (below_step XB.out HB); have BKn := Aside0.mk (blk_below BK.out HB); obtain ⟨k0, k1, k2, k3, k4, k5, k6⟩ := cells7 BKn.out; clear HB XB BK; have XB := XBn; have BK := BKn))
     go_ret
     exact ⟨rfl, XB.out⟩
   ·have z2 : (t == 0) = false := by simpa using hz2
    clear hz2
    have HR : Aside0 (chkB 16 a c v t n o = false) := ⟨by simp_all [chkB, wB] <;> (intros; omega)⟩
    rw [HR.out]
    go_enter Try.func10, Try.ntmps10
    go_wp2_with (first | ((with_reducible refine gate_dst (N := 1) rfl ?_); refine bx_ (N := 1) (cs := #[.int .i64 16, .int .i64 a, .int .i64 c, .slice A v.length cc, .int .i64 t, .int .i64 n, .int .i64 o]) (t := 31) ?_; intro g hg w1 hb HB; have XB := Aside0.mk HB; have BK := Aside0.mk hb; obtain ⟨k0, k1, k2, k3, k4, k5, k6⟩ := cells7 hb; clear hg hb HB) | (go_at_call 28; refine (is_c _ _).mono ?_; rintro e w' ⟨rfl, rfl⟩) | (go_at_call 26; refine (refspan_c _ _ _ (by omega) (by omega)).mono ?_; rintro e w' ⟨rfl, rfl⟩) | (go_at_call 27; refine (vals_c 16 a c A cc v t n o _ _ _ (Kd.C_below HV.out XB.out) (m := 65535) (by decide)).mono ?_; rintro e w2 ⟨rfl, HB⟩; have XBn := Aside0.mk (below_step XB.out HB); have BKn := Aside0.mk (blk_below BK.out HB); obtain ⟨k0, k1, k2, k3, k4, k5, k6⟩ := cells7 BKn.out; clear HB XB BK; have XB := XBn; have BK := BKn))
    go_ret
    exact ⟨rfl, XB.out⟩
  ·have z1 : (o == 0) = false := by simpa using hz1
   clear hz1
   have HR : Aside0 (chkB 16 a c v t n o = false) := ⟨by simp_all [chkB, wB] <;> (intros; omega)⟩
   rw [HR.out]
   go_enter Try.func10, Try.ntmps10
   go_wp2_with (first | ((with_reducible refine gate_dst (N := 1) rfl ?_); refine bx_ (N := 1) (cs := #[.int .i64 16, .int .i64 a, .int .i64 c, .slice A v.length cc, .int .i64 t, .int .i64 n, .int .i64 o]) (t := 31) ?_; intro g hg w1 hb HB; have XB := Aside0.mk HB; have BK := Aside0.mk hb; obtain ⟨k0, k1, k2, k3, k4, k5, k6⟩ := cells7 hb; clear hg hb HB) | (go_at_call 28; refine (is_c _ _).mono ?_; rintro e w' ⟨rfl, rfl⟩) | (go_at_call 26; refine (refspan_c _ _ _ (by omega) (by omega)).mono ?_; rintro e w' ⟨rfl, rfl⟩) | (go_at_call 27; refine (vals_c 16 a c A cc v t n o _ _ _ (Kd.C_below HV.out XB.out) (m := 65535) (by decide)).mono ?_; rintro e w2 ⟨rfl, HB⟩; have XBn := Aside0.mk (below_step XB.out HB); have BKn := Aside0.mk (blk_below BK.out HB); obtain ⟨k0, k1, k2, k3, k4, k5, k6⟩ := cells7 BKn.out; clear HB XB BK; have XB := XBn; have BK := BKn))
   go_ret
   exact ⟨rfl, XB.out⟩
 ·have z0 : (n == 0) = false := by simpa using hz0
  clear hz0
  have HR : Aside0 (chkB 16 a c v t n o = false) := ⟨by simp_all [chkB, wB] <;> (intros; omega)⟩
  rw [HR.out]
  go_enter Try.func10, Try.ntmps10
  go_wp2_with (first | ((with_reducible refine gate_dst (N := 1) rfl ?_); refine bx_ (N := 1) (cs := #[.int .i64 16, .int .i64 a, .int .i64 c, .slice A v.length cc, .int .i64 t, .int .i64 n, .int .i64 o]) (t := 31) ?_; intro g hg w1 hb HB; have XB := Aside0.mk HB; have BK := Aside0.mk hb; obtain ⟨k0, k1, k2, k3, k4, k5, k6⟩ := cells7 hb; clear hg hb HB) | (go_at_call 28; refine (is_c _ _).mono ?_; rintro e w' ⟨rfl, rfl⟩) | (go_at_call 26; refine (refspan_c _ _ _ (by omega) (by omega)).mono ?_; rintro e w' ⟨rfl, rfl⟩) | (go_at_call 27; refine (vals_c 16 a c A cc v t n o _ _ _ (Kd.C_below HV.out XB.out) (m := 65535) (by decide)).mono ?_; rintro e w2 ⟨rfl, HB⟩; have XBn := Aside0.mk (below_step XB.out HB); have BKn := Aside0.mk (blk_below BK.out HB); obtain ⟨k0, k1, k2, k3, k4, k5, k6⟩ := cells7 BKn.out; clear HB XB BK; have XB := XBn; have BK := BKn))
  go_ret
  exact ⟨rfl, XB.out⟩
end Go.Proofs.Ytlalpooiegganaa.Chk
end

section
namespace Go.Proofs.Ytlalpooiegganaa.Chk
open Go.RowKit Go.Proofs.YtlalpooiegganaaW.PrintWords Go.Proofs.YtlalpooiegganaaW.PrintLast Go.Proofs.YtlalpooiegganaaW.PrintMore Go.Proofs.Ytlalpooiegganaa.Core Go.Proofs.Ytlalpooiegganaa.Wk
set_option linter.unusedVariables false
set_option linter.unusedSimpArgs false
set_option maxHeartbeats 4000000 in
set_option maxRecDepth 100000 in
theorem may_22 (a c : Int) (A : Option Addr) (cc : Nat) (v : List Int) (t n o : Int) (w : World) (hV : Kd.C (Kd.int .i64) w A v.length v) : Calls Try.prog 10 #[.agg #[.int .i64 22, .int .i64 a, .int .i64 c, .slice A v.length cc, .int .i64 t, .int .i64 n, .int .i64 o]] w fun e w' => e = .returned (.bool (chkB 22 a c v t n o)) ∧ Below w.heap.size w w' := by
 have HV := Aside0.mk hV; clear hV
 by_cases hz0 : (n == 0) = true
 ·have z0 : (n == 0) = true := hz0; clear hz0
  by_cases hz1 : (o == 0) = true
  ·have z1 : (o == 0) = true := hz1; clear hz1
   by_cases hz2 : ((v.length : Int) == 0) = true
   ·have z2 : ((v.length : Int) == 0) = true := hz2; clear hz2
    by_cases hz3 : (t == 0) = true
    ·have z3 : (t == 0) = true := hz3; clear hz3
     by_cases hz4 : (c == 0) = true
     ·have z4 : (c == 0) = true := hz4; clear hz4
      by_cases hz5 : spB a 1 = true
      ·have z5 : spB a 1 = true := hz5; clear hz5
       by_cases hz6 : wB 0 65535 n = true
       ·have z6 : wB 0 65535 n = true := hz6; clear hz6
        by_cases hz7 : wB 0 65535 o = true
        ·have z7 : wB 0 65535 o = true := hz7; clear hz7
         have HR : Aside0 (chkB 22 a c v t n o = true) := ⟨by simp_all [chkB]⟩
         rw [HR.out]
         go_enter Try.func10, Try.ntmps10
         go_wp2_with (first | ((with_reducible refine gate_dst (N := 1) rfl ?_); refine bx_ (N := 1) (cs := #[.int .i64 22, .int .i64 a, .int .i64 c, .slice A v.length cc, .int .i64 t, .int .i64 n, .int .i64 o]) (t := 31) ?_; intro g hg w1 hb HB; have XB := Aside0.mk HB; have BK := Aside0.mk hb; obtain ⟨k0, k1, k2, k3, k4, k5, k6⟩ := cells7 hb; clear hg hb HB) | (go_at_call 28; refine (is_c _ _).mono ?_; rintro e w' ⟨rfl, rfl⟩) | (go_at_call 26; refine (refspan_c _ _ _ (by omega) (by omega)).mono ?_; rintro e w' ⟨rfl, rfl⟩))
         go_ret
         exact ⟨rfl, XB.out⟩
        ·have z7 : wB 0 65535 o = false := by simpa using hz7
         clear hz7
         have HR : Aside0 (chkB 22 a c v t n o = false) := ⟨by simp_all [chkB]⟩
         rw [HR.out]
         go_enter Try.func10, Try.ntmps10
         go_wp2_with (first | ((with_reducible refine gate_dst (N := 1) rfl ?_); refine bx_ (N := 1) (cs := #[.int .i64 22, .int .i64 a, .int .i64 c, .slice A v.length cc, .int .i64 t, .int .i64 n, .int .i64 o]) (t := 31) ?_; intro g hg w1 hb HB; have XB := Aside0.mk HB; have BK := Aside0.mk hb; obtain ⟨k0, k1, k2, k3, k4, k5, k6⟩ := cells7 hb; clear hg hb HB) | (go_at_call 28; refine (is_c _ _).mono ?_; rintro e w' ⟨rfl, rfl⟩) | (go_at_call 26; refine (refspan_c _ _ _ (by omega) (by omega)).mono ?_; rintro e w' ⟨rfl, rfl⟩))
         go_ret
         exact ⟨rfl, XB.out⟩
       ·have z6 : wB 0 65535 n = false := by simpa using hz6
        clear hz6
        have HR : Aside0 (chkB 22 a c v t n o = false) := ⟨by simp_all [chkB]⟩
        rw [HR.out]
        go_enter Try.func10, Try.ntmps10
        go_wp2_with (first | ((with_reducible refine gate_dst (N := 1) rfl ?_); refine bx_ (N := 1) (cs := #[.int .i64 22, .int .i64 a, .int .i64 c, .slice A v.length cc, .int .i64 t, .int .i64 n, .int .i64 o]) (t := 31) ?_; intro g hg w1 hb HB; have XB := Aside0.mk HB; have BK := Aside0.mk hb; obtain ⟨k0, k1, k2, k3, k4, k5, k6⟩ := cells7 hb; clear hg hb HB) | (go_at_call 28; refine (is_c _ _).mono ?_; rintro e w' ⟨rfl, rfl⟩) | (go_at_call 26; refine (refspan_c _ _ _ (by omega) (by omega)).mono ?_; rintro e w' ⟨rfl, rfl⟩))
        go_ret
        exact ⟨rfl, XB.out⟩
      ·have z5 : spB a 1 = false := by simpa using hz5
       clear hz5
       have HR : Aside0 (chkB 22 a c v t n o = false) := ⟨by simp_all [chkB]⟩
       rw [HR.out]
       go_enter Try.func10, Try.ntmps10
       go_wp2_with (first | ((with_reducible refine gate_dst (N := 1) rfl ?_); refine bx_ (N := 1) (cs := #[.int .i64 22, .int .i64 a, .int .i64 c, .slice A v.length cc, .int .i64 t, .int .i64 n, .int .i64 o]) (t := 31) ?_; intro g hg w1 hb HB; have XB := Aside0.mk HB; have BK := Aside0.mk hb; obtain ⟨k0, k1, k2, k3, k4, k5, k6⟩ := cells7 hb; clear hg hb HB) | (go_at_call 28; refine (is_c _ _).mono ?_; rintro e w' ⟨rfl, rfl⟩) | (go_at_call 26; refine (refspan_c _ _ _ (by omega) (by omega)).mono ?_; rintro e w' ⟨rfl, rfl⟩))
       go_ret
       exact ⟨rfl, XB.out⟩
     ·have z4 : (c == 0) = false := by simpa using hz4
      clear hz4
      have HR : Aside0 (chkB 22 a c v t n o = false) := ⟨by simp_all [chkB]⟩
      rw [HR.out]
      go_enter Try.func10, Try.ntmps10
      go_wp2_with (first | ((with_reducible refine gate_dst (N := 1) rfl ?_); refine bx_ (N := 1) (cs := #[.int .i64 22, .int .i64 a, .int .i64 c, .slice A v.length cc, .int .i64 t, .int .i64 n, .int .i64 o]) (t := 31) ?_; intro g hg w1 hb HB; have XB := Aside0.mk HB; have BK := Aside0.mk hb; obtain ⟨k0, k1, k2, k3, k4, k5, k6⟩ := cells7 hb; clear hg hb HB) | (go_at_call 28; refine (is_c _ _).mono ?_; rintro e w' ⟨rfl, rfl⟩) | (go_at_call 26; refine (refspan_c _ _ _ (by omega) (by omega)).mono ?_; rintro e w' ⟨rfl, rfl⟩))
      go_ret
      exact ⟨rfl, XB.out⟩
    ·have z3 : (t == 0) = false := by simpa using hz3
     clear hz3
     have HR : Aside0 (chkB 22 a c v t n o = false) := ⟨by simp_all [chkB]⟩
     rw [HR.out]
     go_enter Try.func10, Try.ntmps10
     go_wp2_with (first | ((with_reducible refine gate_dst (N := 1) rfl ?_); refine bx_ (N := 1) (cs := #[.int .i64 22, .int .i64 a, .int .i64 c, .slice A v.length cc, .int .i64 t, .int .i64 n, .int .i64 o]) (t := 31) ?_; intro g hg w1 hb HB; have XB := Aside0.mk HB; have BK := Aside0.mk hb; obtain ⟨k0, k1, k2, k3, k4, k5, k6⟩ := cells7 hb; clear hg hb HB) | (go_at_call 28; refine (is_c _ _).mono ?_; rintro e w' ⟨rfl, rfl⟩) | (go_at_call 26; refine (refspan_c _ _ _ (by omega) (by omega)).mono ?_; rintro e w' ⟨rfl, rfl⟩))
     go_ret
     exact ⟨rfl, XB.out⟩
   ·have z2 : ((v.length : Int) == 0) = false := by simpa using hz2
    clear hz2
    have HR : Aside0 (chkB 22 a c v t n o = false) := ⟨by simp_all [chkB]⟩
    rw [HR.out]
    go_enter Try.func10, Try.ntmps10
    go_wp2_with (first | ((with_reducible refine gate_dst (N := 1) rfl ?_); refine bx_ (N := 1) (cs := #[.int .i64 22, .int .i64 a, .int .i64 c, .slice A v.length cc, .int .i64 t, .int .i64 n, .int .i64 o]) (t := 31) ?_; intro g hg w1 hb HB; have XB := Aside0.mk HB; have BK := Aside0.mk hb; obtain ⟨k0, k1, k2, k3, k4, k5, k6⟩ := cells7 hb; clear hg hb HB) | (go_at_call 28; refine (is_c _ _).mono ?_; rintro e w' ⟨rfl, rfl⟩) | (go_at_call 26; refine (refspan_c _ _ _ (by omega) (by omega)).mono ?_; rintro e w' ⟨rfl, rfl⟩))
    go_ret
    exact ⟨rfl, XB.out⟩
  ·have z1 : (o == 0) = false := by simpa using hz1
   clear hz1
   by_cases hz2 : ((v.length : Int) == 0) = true
   ·have z2 : ((v.length : Int) == 0) = true := hz2; clear hz2
    by_cases hz3 : (t == 0) = true
    ·have z3 : (t == 0) = true := hz3; clear hz3
     by_cases hz4 : (c == 0) = true
     ·have z4 : (c == 0) = true := hz4; clear hz4
      by_cases hz5 : spB a 1 = true
      ·have z5 : spB a 1 = true := hz5; clear hz5
       by_cases hz6 : wB 0 65535 n = true
       ·have z6 : wB 0 65535 n = true := hz6; clear hz6
        by_cases hz7 : wB 0 65535 o = true
        ·have z7 : wB 0 65535 o = true := hz7; clear hz7
         have HR : Aside0 (chkB 22 a c v t n o = true) := ⟨by simp_all [chkB]⟩
         rw [HR.out]
         go_enter Try.func10, Try.ntmps10
         go_wp2_with (first | ((with_reducible refine gate_dst (N := 1) rfl ?_); refine bx_ (N := 1) (cs := #[.int .i64 22, .int .i64 a, .int .i64 c, .slice A v.length cc, .int .i64 t, .int .i64 n, .int .i64 o]) (t := 31) ?_; intro g hg w1 hb HB; have XB := Aside0.mk HB; have BK := Aside0.mk hb; obtain ⟨k0, k1, k2, k3, k4, k5, k6⟩ := cells7 hb; clear hg hb HB) | (go_at_call 28; refine (is_c _ _).mono ?_; rintro e w' ⟨rfl, rfl⟩) | (go_at_call 26; refine (refspan_c _ _ _ (by omega) (by omega)).mono ?_; rintro e w' ⟨rfl, rfl⟩))
         go_ret
         exact ⟨rfl, XB.out⟩
        ·have z7 : wB 0 65535 o = false := by simpa using hz7
         clear hz7
         have HR : Aside0 (chkB 22 a c v t n o = false) := ⟨by simp_all [chkB]⟩
         rw [HR.out]
         go_enter Try.func10, Try.ntmps10
         go_wp2_with (first | ((with_reducible refine gate_dst (N := 1) rfl ?_); refine bx_ (N := 1) (cs := #[.int .i64 22, .int .i64 a, .int .i64 c, .slice A v.length cc, .int .i64 t, .int .i64 n, .int .i64 o]) (t := 31) ?_; intro g hg w1 hb HB; have XB := Aside0.mk HB; have BK := Aside0.mk hb; obtain ⟨k0, k1, k2, k3, k4, k5, k6⟩ := cells7 hb; clear hg hb HB) | (go_at_call 28; refine (is_c _ _).mono ?_; rintro e w' ⟨rfl, rfl⟩) | (go_at_call 26; refine (refspan_c _ _ _ (by omega) (by omega)).mono ?_; rintro e w' ⟨rfl, rfl⟩))
         go_ret
         exact ⟨rfl, XB.out⟩
       ·have z6 : wB 0 65535 n = false := by simpa using hz6
        clear hz6
        have HR : Aside0 (chkB 22 a c v t n o = false) := ⟨by simp_all [chkB]⟩
        rw [HR.out]
        go_enter Try.func10, Try.ntmps10
        go_wp2_with (first | ((with_reducible refine gate_dst (N := 1) rfl ?_); refine bx_ (N := 1) (cs := #[.int .i64 22, .int .i64 a, .int .i64 c, .slice A v.length cc, .int .i64 t, .int .i64 n, .int .i64 o]) (t := 31) ?_; intro g hg w1 hb HB; have XB := Aside0.mk HB; have BK := Aside0.mk hb; obtain ⟨k0, k1, k2, k3, k4, k5, k6⟩ := cells7 hb; clear hg hb HB) | (go_at_call 28; refine (is_c _ _).mono ?_; rintro e w' ⟨rfl, rfl⟩) | (go_at_call 26; refine (refspan_c _ _ _ (by omega) (by omega)).mono ?_; rintro e w' ⟨rfl, rfl⟩))
        go_ret
        exact ⟨rfl, XB.out⟩
      ·have z5 : spB a 1 = false := by simpa using hz5
       clear hz5
       have HR : Aside0 (chkB 22 a c v t n o = false) := ⟨by simp_all [chkB]⟩
       rw [HR.out]
       go_enter Try.func10, Try.ntmps10
       go_wp2_with (first | ((with_reducible refine gate_dst (N := 1) rfl ?_); refine bx_ (N := 1) (cs := #[.int .i64 22, .int .i64 a, .int .i64 c, .slice A v.length cc, .int .i64 t, .int .i64 n, .int .i64 o]) (t := 31) ?_; intro g hg w1 hb HB; have XB := Aside0.mk HB; have BK := Aside0.mk hb; obtain ⟨k0, k1, k2, k3, k4, k5, k6⟩ := cells7 hb; clear hg hb HB) | (go_at_call 28; refine (is_c _ _).mono ?_; rintro e w' ⟨rfl, rfl⟩) | (go_at_call 26; refine (refspan_c _ _ _ (by omega) (by omega)).mono ?_; rintro e w' ⟨rfl, rfl⟩))
       go_ret
       exact ⟨rfl, XB.out⟩
     ·have z4 : (c == 0) = false := by simpa using hz4
      clear hz4
      have HR : Aside0 (chkB 22 a c v t n o = false) := ⟨by simp_all [chkB]⟩
      rw [HR.out]
      go_enter Try.func10, Try.ntmps10
      go_wp2_with (first | ((with_reducible refine gate_dst (N := 1) rfl ?_); refine bx_ (N := 1) (cs := #[.int .i64 22, .int .i64 a, .int .i64 c, .slice A v.length cc, .int .i64 t, .int .i64 n, .int .i64 o]) (t := 31) ?_; intro g hg w1 hb HB; have XB := Aside0.mk HB; have BK := Aside0.mk hb; obtain ⟨k0, k1, k2, k3, k4, k5, k6⟩ := cells7 hb; clear hg hb HB) | (go_at_call 28; refine (is_c _ _).mono ?_; rintro e w' ⟨rfl, rfl⟩) | (go_at_call 26; refine (refspan_c _ _ _ (by omega) (by omega)).mono ?_; rintro e w' ⟨rfl, rfl⟩))
      go_ret
      exact ⟨rfl, XB.out⟩
    ·have z3 : (t == 0) = false := by simpa using hz3
     clear hz3
     have HR : Aside0 (chkB 22 a c v t n o = false) := ⟨by simp_all [chkB]⟩
     rw [HR.out]
     go_enter Try.func10, Try.ntmps10
     go_wp2_with (first | ((with_reducible refine gate_dst (N := 1) rfl ?_); refine bx_ (N := 1) (cs := #[.int .i64 22, .int .i64 a, .int .i64 c, .slice A v.length cc, .int .i64 t, .int .i64 n, .int .i64 o]) (t := 31) ?_; intro g hg w1 hb HB; have XB := Aside0.mk HB; have BK := Aside0.mk hb; obtain ⟨k0, k1, k2, k3, k4, k5, k6⟩ := cells7 hb; clear hg hb HB) | (go_at_call 28; refine (is_c _ _).mono ?_; rintro e w' ⟨rfl, rfl⟩) | (go_at_call 26; refine (refspan_c _ _ _ (by omega) (by omega)).mono ?_; rintro e w' ⟨rfl, rfl⟩))
     go_ret
     exact ⟨rfl, XB.out⟩
   ·have z2 : ((v.length : Int) == 0) = false := by simpa using hz2
    clear hz2
    have HR : Aside0 (chkB 22 a c v t n o = false) := ⟨by simp_all [chkB]⟩
    rw [HR.out]
    go_enter Try.func10, Try.ntmps10
    go_wp2_with (first | ((with_reducible refine gate_dst (N := 1) rfl ?_); refine bx_ (N := 1) (cs := #[.int .i64 22, .int .i64 a, .int .i64 c, .slice A v.length cc, .int .i64 t, .int .i64 n, .int .i64 o]) (t := 31) ?_; intro g hg w1 hb HB; have XB := Aside0.mk HB; have BK := Aside0.mk hb; obtain ⟨k0, k1, k2, k3, k4, k5, k6⟩ := cells7 hb; clear hg hb HB) | (go_at_call 28; refine (is_c _ _).mono ?_; rintro e w' ⟨rfl, rfl⟩) | (go_at_call 26; refine (refspan_c _ _ _ (by omega) (by omega)).mono ?_; rintro e w' ⟨rfl, rfl⟩))
    go_ret
    exact ⟨rfl, XB.out⟩
 ·have z0 : (n == 0) = false := by simpa using hz0
  clear hz0
  by_cases hz1 : ((v.length : Int) == 0) = true
  ·have z1 : ((v.length : Int) == 0) = true := hz1; clear hz1
   by_cases hz2 : (t == 0) = true
   ·have z2 : (t == 0) = true := hz2; clear hz2
    by_cases hz3 : (c == 0) = true
    ·have z3 : (c == 0) = true := hz3; clear hz3
     by_cases hz4 : spB a 1 = true
     ·have z4 : spB a 1 = true := hz4; clear hz4
      by_cases hz5 : wB 0 65535 n = true
      ·have z5 : wB 0 65535 n = true := hz5; clear hz5
       by_cases hz6 : wB 0 65535 o = true
       ·have z6 : wB 0 65535 o = true := hz6; clear hz6
        have HR : Aside0 (chkB 22 a c v t n o = true) := ⟨by simp_all [chkB]⟩
        rw [HR.out]
        go_enter Try.func10, Try.ntmps10
        go_wp2_with (first | ((with_reducible refine gate_dst (N := 1) rfl ?_); refine bx_ (N := 1) (cs := #[.int .i64 22, .int .i64 a, .int .i64 c, .slice A v.length cc, .int .i64 t, .int .i64 n, .int .i64 o]) (t := 31) ?_; intro g hg w1 hb HB; have XB := Aside0.mk HB; have BK := Aside0.mk hb; obtain ⟨k0, k1, k2, k3, k4, k5, k6⟩ := cells7 hb; clear hg hb HB) | (go_at_call 28; refine (is_c _ _).mono ?_; rintro e w' ⟨rfl, rfl⟩) | (go_at_call 26; refine (refspan_c _ _ _ (by omega) (by omega)).mono ?_; rintro e w' ⟨rfl, rfl⟩))
        go_ret
        exact ⟨rfl, XB.out⟩
       ·have z6 : wB 0 65535 o = false := by simpa using hz6
        clear hz6
        have HR : Aside0 (chkB 22 a c v t n o = false) := ⟨by simp_all [chkB]⟩
        rw [HR.out]
        go_enter Try.func10, Try.ntmps10
        go_wp2_with (first | ((with_reducible refine gate_dst (N := 1) rfl ?_); refine bx_ (N := 1) (cs := #[.int .i64 22, .int .i64 a, .int .i64 c, .slice A v.length cc, .int .i64 t, .int .i64 n, .int .i64 o]) (t := 31) ?_; intro g hg w1 hb HB; have XB := Aside0.mk HB; have BK := Aside0.mk hb; obtain ⟨k0, k1, k2, k3, k4, k5, k6⟩ := cells7 hb; clear hg hb HB) | (go_at_call 28; refine (is_c _ _).mono ?_; rintro e w' ⟨rfl, rfl⟩) | (go_at_call 26; refine (refspan_c _ _ _ (by omega) (by omega)).mono ?_; rintro e w' ⟨rfl, rfl⟩))
        go_ret
        exact ⟨rfl, XB.out⟩
      ·have z5 : wB 0 65535 n = false := by simpa using hz5
       clear hz5
       have HR : Aside0 (chkB 22 a c v t n o = false) := ⟨by simp_all [chkB]⟩
       rw [HR.out]
       go_enter Try.func10, Try.ntmps10
       go_wp2_with (first | ((with_reducible refine gate_dst (N := 1) rfl ?_); refine bx_ (N := 1) (cs := #[.int .i64 22, .int .i64 a, .int .i64 c, .slice A v.length cc, .int .i64 t, .int .i64 n, .int .i64 o]) (t := 31) ?_; intro g hg w1 hb HB; have XB := Aside0.mk HB; have BK := Aside0.mk hb; obtain ⟨k0, k1, k2, k3, k4, k5, k6⟩ := cells7 hb; clear hg hb HB) | (go_at_call 28; refine (is_c _ _).mono ?_; rintro e w' ⟨rfl, rfl⟩) | (go_at_call 26; refine (refspan_c _ _ _ (by omega) (by omega)).mono ?_; rintro e w' ⟨rfl, rfl⟩))
       go_ret
       exact ⟨rfl, XB.out⟩
     ·have z4 : spB a 1 = false := by simpa using hz4
      clear hz4
      have HR : Aside0 (chkB 22 a c v t n o = false) := ⟨by simp_all [chkB]⟩
      rw [HR.out]
      go_enter Try.func10, Try.ntmps10
      go_wp2_with (first | ((with_reducible refine gate_dst (N := 1) rfl ?_); refine bx_ (N := 1) (cs := #[.int .i64 22, .int .i64 a, .int .i64 c, .slice A v.length cc, .int .i64 t, .int .i64 n, .int .i64 o]) (t := 31) ?_; intro g hg w1 hb HB; have XB := Aside0.mk HB; have BK := Aside0.mk hb; obtain ⟨k0, k1, k2, k3, k4, k5, k6⟩ := cells7 hb; clear hg hb HB) | (go_at_call 28; refine (is_c _ _).mono ?_; rintro e w' ⟨rfl, rfl⟩) | (go_at_call 26; refine (refspan_c _ _ _ (by omega) (by omega)).mono ?_; rintro e w' ⟨rfl, rfl⟩))
      go_ret
      exact ⟨rfl, XB.out⟩
    ·have z3 : (c == 0) = false := by simpa using hz3
     clear hz3
     have HR : Aside0 (chkB 22 a c v t n o = false) := ⟨by simp_all [chkB]⟩
     rw [HR.out]
     go_enter Try.func10, Try.ntmps10
     go_wp2_with (first | ((with_reducible refine gate_dst (N := 1) rfl ?_); refine bx_ (N := 1) (cs := #[.int .i64 22, .int .i64 a, .int .i64 c, .slice A v.length cc, .int .i64 t, .int .i64 n, .int .i64 o]) (t := 31) ?_; intro g hg w1 hb HB; have XB := Aside0.mk HB; have BK := Aside0.mk hb; obtain ⟨k0, k1, k2, k3, k4, k5, k6⟩ := cells7 hb; clear hg hb HB) | (go_at_call 28; refine (is_c _ _).mono ?_; rintro e w' ⟨rfl, rfl⟩) | (go_at_call 26; refine (refspan_c _ _ _ (by omega) (by omega)).mono ?_; rintro e w' ⟨rfl, rfl⟩))
     go_ret
     exact ⟨rfl, XB.out⟩
   ·have z2 : (t == 0) = false := by simpa using hz2
    clear hz2
    have HR : Aside0 (chkB 22 a c v t n o = false) := ⟨by simp_all [chkB]⟩
    rw [HR.out]
    go_enter Try.func10, Try.ntmps10
    go_wp2_with (first | ((with_reducible refine gate_dst (N := 1) rfl ?_); refine bx_ (N := 1) (cs := #[.int .i64 22, .int .i64 a, .int .i64 c, .slice A v.length cc, .int .i64 t, .int .i64 n, .int .i64 o]) (t := 31) ?_; intro g hg w1 hb HB; have XB := Aside0.mk HB; have BK := Aside0.mk hb; obtain ⟨k0, k1, k2, k3, k4, k5, k6⟩ := cells7 hb; clear hg hb HB) | (go_at_call 28; refine (is_c _ _).mono ?_; rintro e w' ⟨rfl, rfl⟩) | (go_at_call 26; refine (refspan_c _ _ _ (by omega) (by omega)).mono ?_; rintro e w' ⟨rfl, rfl⟩))
    go_ret
    exact ⟨rfl, XB.out⟩
  ·have z1 : ((v.length : Int) == 0) = false := by simpa using hz1
   clear hz1
   have HR : Aside0 (chkB 22 a c v t n o = false) := ⟨by simp_all [chkB]⟩
   rw [HR.out]
   go_enter Try.func10, Try.ntmps10
   go_wp2_with (first | ((with_reducible refine gate_dst (N := 1) rfl ?_); refine bx_ (N := 1) (cs := #[.int .i64 22, .int .i64 a, .int .i64 c, .slice A v.length cc, .int .i64 t, .int .i64 n, .int .i64 o]) (t := 31) ?_; intro g hg w1 hb HB; have XB := Aside0.mk HB; have BK := Aside0.mk hb; obtain ⟨k0, k1, k2, k3, k4, k5, k6⟩ := cells7 hb; clear hg hb HB) | (go_at_call 28; refine (is_c _ _).mono ?_; rintro e w' ⟨rfl, rfl⟩) | (go_at_call 26; refine (refspan_c _ _ _ (by omega) (by omega)).mono ?_; rintro e w' ⟨rfl, rfl⟩))
   go_ret
   exact ⟨rfl, XB.out⟩
set_option maxHeartbeats 4000000 in
set_option maxRecDepth 100000 in
theorem may_f (f a c : Int) (A : Option Addr) (cc : Nat) (v : List Int) (t n o : Int) (w : World) (hV : Kd.C (Kd.int .i64) w A v.length v) (hf : f ≠ 1 ∧ f ≠ 2 ∧ f ≠ 3 ∧ f ≠ 4 ∧ f ≠ 5 ∧ f ≠ 6 ∧ f ≠ 15 ∧ f ≠ 16 ∧ f ≠ 22 ∧ f ≠ 23) : Calls Try.prog 10 #[.agg #[.int .i64 f, .int .i64 a, .int .i64 c, .slice A v.length cc, .int .i64 t, .int .i64 n, .int .i64 o]] w fun e w' => e = .returned (.bool (chkB f a c v t n o)) ∧ Below w.heap.size w w' := by
 have HV := Aside0.mk hV; clear hV
 obtain ⟨g1, g2, g3, g4, g5, g6, g7, g8, g9, g10⟩ := hf
 have HR : Aside0 (chkB f a c v t n o = false) := ⟨by unfold chkB; rw [if_neg (by omega), if_neg (by omega), if_neg g5, if_neg g6, if_neg g7, if_neg g8, if_neg g9, if_neg g10]⟩
 have y0 : (f == 1) = false := beq_eq_false_iff_ne.2 g1
 have y1 : (f == 2) = false := beq_eq_false_iff_ne.2 g2
 have y2 : (f == 3) = false := beq_eq_false_iff_ne.2 g3
 have y3 : (f == 4) = false := beq_eq_false_iff_ne.2 g4
 have y4 : (f == 5) = false := beq_eq_false_iff_ne.2 g5
 have y5 : (f == 6) = false := beq_eq_false_iff_ne.2 g6
 have y6 : (f == 15) = false := beq_eq_false_iff_ne.2 g7
 have y7 : (f == 16) = false := beq_eq_false_iff_ne.2 g8
 have y8 : (f == 22) = false := beq_eq_false_iff_ne.2 g9
 have y9 : (f == 23) = false := beq_eq_false_iff_ne.2 g10
 clear g1 g2 g3 g4 g5 g6 g7 g8 g9 g10
 rw [HR.out]
 by_cases hz0 : (n == 0) = true
 ·have z0 : (n == 0) = true := hz0; clear hz0
  by_cases hz1 : (o == 0) = true
  ·have z1 : (o == 0) = true := hz1; clear hz1
   go_enter Try.func10, Try.ntmps10
   go_wp2_with (first | ((with_reducible refine gate_dst (N := 1) rfl ?_); refine bx_ (N := 1) (cs := #[.int .i64 f, .int .i64 a, .int .i64 c, .slice A v.length cc, .int .i64 t, .int .i64 n, .int .i64 o]) (t := 31) ?_; intro g hg w1 hb HB; have XB := Aside0.mk HB; have BK := Aside0.mk hb; obtain ⟨k0, k1, k2, k3, k4, k5, k6⟩ := cells7 hb; clear hg hb HB) | (go_at_call 28; refine (is_c _ _).mono ?_; rintro e w' ⟨rfl, rfl⟩) | (go_at_call 26; refine (refspan_c _ _ _ (by omega) (by omega)).mono ?_; rintro e w' ⟨rfl, rfl⟩))
   go_ret
   exact ⟨rfl, XB.out⟩
  ·have z1 : (o == 0) = false := by simpa using hz1
   clear hz1
   go_enter Try.func10, Try.ntmps10
   go_wp2_with (first | ((with_reducible refine gate_dst (N := 1) rfl ?_); refine bx_ (N := 1) (cs := #[.int .i64 f, .int .i64 a, .int .i64 c, .slice A v.length cc, .int .i64 t, .int .i64 n, .int .i64 o]) (t := 31) ?_; intro g hg w1 hb HB; have XB := Aside0.mk HB; have BK := Aside0.mk hb; obtain ⟨k0, k1, k2, k3, k4, k5, k6⟩ := cells7 hb; clear hg hb HB) | (go_at_call 28; refine (is_c _ _).mono ?_; rintro e w' ⟨rfl, rfl⟩) | (go_at_call 26; refine (refspan_c _ _ _ (by omega) (by omega)).mono ?_; rintro e w' ⟨rfl, rfl⟩))
   go_ret
   exact ⟨rfl, XB.out⟩
 ·have z0 : (n == 0) = false := by simpa using hz0
  clear hz0
  go_enter Try.func10, Try.ntmps10
  go_wp2_with (first | ((with_reducible refine gate_dst (N := 1) rfl ?_); refine bx_ (N := 1) (cs := #[.int .i64 f, .int .i64 a, .int .i64 c, .slice A v.length cc, .int .i64 t, .int .i64 n, .int .i64 o]) (t := 31) ?_; intro g hg w1 hb HB; have XB := Aside0.mk HB; have BK := Aside0.mk hb; obtain ⟨k0, k1, k2, k3, k4, k5, k6⟩ := cells7 hb; clear hg hb HB) | (go_at_call 28; refine (is_c _ _).mono ?_; rintro e w' ⟨rfl, rfl⟩) | (go_at_call 26; refine (refspan_c _ _ _ (by omega) (by omega)).mono ?_; rintro e w' ⟨rfl, rfl⟩))
  go_ret
  exact ⟨rfl, XB.out⟩
end Go.Proofs.Ytlalpooiegganaa.Chk
end

section
namespace Go.Proofs.Ytlalpooiegganaa.Chk
open Go.RowKit Go.Proofs.YtlalpooiegganaaW.PrintWords Go.Proofs.YtlalpooiegganaaW.PrintLast Go.Proofs.YtlalpooiegganaaW.PrintMore Go.Proofs.Ytlalpooiegganaa.Core Go.Proofs.Ytlalpooiegganaa.Wk
set_option linter.unusedVariables false
set_option linter.unusedSimpArgs false
set_option maxHeartbeats 4000000 in
set_option maxRecDepth 100000 in
theorem may_23 (a c : Int) (A : Option Addr) (cc : Nat) (v : List Int) (t n o : Int) (w : World) (hV : Kd.C (Kd.int .i64) w A v.length v) : Calls Try.prog 10 #[.agg #[.int .i64 23, .int .i64 a, .int .i64 c, .slice A v.length cc, .int .i64 t, .int .i64 n, .int .i64 o]] w fun e w' => e = .returned (.bool (chkB 23 a c v t n o)) ∧ Below w.heap.size w w' := by
 have HV := Aside0.mk hV; clear hV
 by_cases hz0 : (n == 0) = true
 ·have z0 : (n == 0) = true := hz0; clear hz0
  by_cases hz1 : (o == 0) = true
  ·have z1 : (o == 0) = true := hz1; clear hz1
   by_cases hz2 : decide (1 ≤ c) = true
   ·have z2 : decide (1 ≤ c) = true := hz2; clear hz2; have pz2 := of_decide_eq_true z2
    by_cases hz3 : decide (c ≤ 125) = true
    ·have z3 : decide (c ≤ 125) = true := hz3; clear hz3; have pz3 := of_decide_eq_true z3
     by_cases hz4 : spB a c = true
     ·have z4 : spB a c = true := hz4; clear hz4
      by_cases hz5 : smB 1 121 65535 v = true
      ·have z5 : smB 1 121 65535 v = true := hz5; clear hz5; have pz5 := smB_len z5
       by_cases hz6 : spB t v.length = true
       ·have z6 : spB t v.length = true := hz6; clear hz6
        have HR : Aside0 (chkB 23 a c v t n o = true) := ⟨by simp_all [chkB, wB] <;> (intros; omega)⟩
        rw [HR.out]
        go_enter Try.func10, Try.ntmps10
        go_wp2_with (first | ((with_reducible refine gate_dst (N := 1) rfl ?_); refine bx_ (N := 1) (cs := #[.int .i64 23, .int .i64 a, .int .i64 c, .slice A v.length cc, .int .i64 t, .int .i64 n, .int .i64 o]) (t := 31) ?_; intro g hg w1 hb HB; have XB := Aside0.mk HB; have BK := Aside0.mk hb; obtain ⟨k0, k1, k2, k3, k4, k5, k6⟩ := cells7 hb; clear hg hb HB) | (go_at_call 28; refine (is_c _ _).mono ?_; rintro e w' ⟨rfl, rfl⟩) | (go_at_call 26; refine (refspan_c _ _ _ (by omega) (by omega)).mono ?_; rintro e w' ⟨rfl, rfl⟩) | (go_at_call 27; refine (vals_c 23 a c A cc v t n o _ _ _ (Kd.C_below HV.out XB.out) (m := 65535) (by decide)).mono ?_; rintro e w2 ⟨rfl, HB⟩; have XBn := Aside0.mk (below_step XB.out HB); have BKn := Aside0.mk (blk_below BK.out HB); obtain ⟨k0, k1, k2, k3, k4, k5, k6⟩ := cells7 BKn.out; clear HB XB BK; have XB := XBn; have BK := BKn))
        go_ret
        exact ⟨rfl, XB.out⟩
       ·have z6 : spB t v.length = false := by simpa using hz6
        clear hz6
        have HR : Aside0 (chkB 23 a c v t n o = false) := ⟨by simp_all [chkB, wB] <;> (intros; omega)⟩
        rw [HR.out]
        go_enter Try.func10, Try.ntmps10
        go_wp2_with (first | ((with_reducible refine gate_dst (N := 1) rfl ?_); refine bx_ (N := 1) (cs := #[.int .i64 23, .int .i64 a, .int .i64 c, .slice A v.length cc, .int .i64 t, .int .i64 n, .int .i64 o]) (t := 31) ?_; intro g hg w1 hb HB; have XB := Aside0.mk HB; have BK := Aside0.mk hb; obtain ⟨k0, k1, k2, k3, k4, k5, k6⟩ := cells7 hb; clear hg hb HB) | (go_at_call 28; refine (is_c _ _).mono ?_; rintro e w' ⟨rfl, rfl⟩) | (go_at_call 26; refine (refspan_c _ _ _ (by omega) (by omega)).mono ?_; rintro e w' ⟨rfl, rfl⟩) | (go_at_call 27; refine (vals_c 23 a c A cc v t n o _ _ _ (Kd.C_below HV.out XB.out) (m := 65535) (by decide)).mono ?_; rintro e w2 ⟨rfl, HB⟩; have XBn := Aside0.mk (below_step XB.out HB); have BKn := Aside0.mk (blk_below BK.out HB); obtain ⟨k0, k1, k2, k3, k4, k5, k6⟩ := cells7 BKn.out; clear HB XB BK; have XB := XBn; have BK := BKn))
        go_ret
        exact ⟨rfl, XB.out⟩
      ·have z5 : smB 1 121 65535 v = false := by simpa using hz5
       clear hz5
       have HR : Aside0 (chkB 23 a c v t n o = false) := ⟨by simp_all [chkB, wB] <;> (intros; omega)⟩
       rw [HR.out]
       go_enter Try.func10, Try.ntmps10
       go_wp2_with (first | ((with_reducible refine gate_dst (N := 1) rfl ?_); refine bx_ (N := 1) (cs := #[.int .i64 23, .int .i64 a, .int .i64 c, .slice A v.length cc, .int .i64 t, .int .i64 n, .int .i64 o]) (t := 31) ?_; intro g hg w1 hb HB; have XB := Aside0.mk HB; have BK := Aside0.mk hb; obtain ⟨k0, k1, k2, k3, k4, k5, k6⟩ := cells7 hb; clear hg hb HB) | (go_at_call 28; refine (is_c _ _).mono ?_; rintro e w' ⟨rfl, rfl⟩) | (go_at_call 26; refine (refspan_c _ _ _ (by omega) (by omega)).mono ?_; rintro e w' ⟨rfl, rfl⟩) | (go_at_call 27; refine (vals_c 23 a c A cc v t n o _ _ _ (Kd.C_below HV.out XB.out) (m := 65535) (by decide)).mono ?_; rintro e w2 ⟨rfl, HB⟩; have XBn := Aside0.mk (below_step XB.out HB); have BKn := Aside0.mk (blk_below BK.out HB); obtain ⟨k0, k1, k2, k3, k4, k5, k6⟩ := cells7 BKn.out; clear HB XB BK; have XB := XBn; have BK := BKn))
       go_ret
       exact ⟨rfl, XB.out⟩
     ·have z4 : spB a c = false := by simpa using hz4
      clear hz4
      have HR : Aside0 (chkB 23 a c v t n o = false) := ⟨by simp_all [chkB, wB] <;> (intros; omega)⟩
      rw [HR.out]
      go_enter Try.func10, Try.ntmps10
      go_wp2_with (first | ((with_reducible refine gate_dst (N := 1) rfl ?_); refine bx_ (N := 1) (cs := #[.int .i64 23, .int .i64 a, .int .i64 c, .slice A v.length cc, .int .i64 t, .int .i64 n, .int .i64 o]) (t := 31) ?_; intro g hg w1 hb HB; have XB := Aside0.mk HB; have BK := Aside0.mk hb; obtain ⟨k0, k1, k2, k3, k4, k5, k6⟩ := cells7 hb; clear hg hb HB) | (go_at_call 28; refine (is_c _ _).mono ?_; rintro e w' ⟨rfl, rfl⟩) | (go_at_call 26; refine (refspan_c _ _ _ (by omega) (by omega)).mono ?_; rintro e w' ⟨rfl, rfl⟩) | (go_at_call 27; refine (vals_c 23 a c A cc v t n o _ _ _ (Kd.C_below HV.out XB.out) (m := 65535) (by decide)).mono ?_; rintro e w2 ⟨rfl, HB⟩; have XBn := Aside0.mk (below_step XB.out HB); have BKn := Aside0.mk (blk_below BK.out HB); obtain ⟨k0, k1, k2, k3, k4, k5, k6⟩ := cells7 BKn.out; clear HB XB BK; have XB := XBn; have BK := BKn))
      go_ret
      exact ⟨rfl, XB.out⟩
    ·have z3 : decide (c ≤ 125) = false := by simpa using hz3
     clear hz3
     have HR : Aside0 (chkB 23 a c v t n o = false) := ⟨by simp_all [chkB, wB] <;> (intros; omega)⟩
     rw [HR.out]
     go_enter Try.func10, Try.ntmps10
     go_wp2_with (first | ((with_reducible refine gate_dst (N := 1) rfl ?_); refine bx_ (N := 1) (cs := #[.int .i64 23, .int .i64 a, .int .i64 c, .slice A v.length cc, .int .i64 t, .int .i64 n, .int .i64 o]) (t := 31) ?_; intro g hg w1 hb HB; have XB := Aside0.mk HB; have BK := Aside0.mk hb; obtain ⟨k0, k1, k2, k3, k4, k5, k6⟩ := cells7 hb; clear hg hb HB) | (go_at_call 28; refine (is_c _ _).mono ?_; rintro e w' ⟨rfl, rfl⟩) | (go_at_call 26; refine (refspan_c _ _ _ (by omega) (by omega)).mono ?_; rintro e w' ⟨rfl, rfl⟩) | (go_at_call 27; refine (vals_c 23 a c A cc v t n o _ _ _ (Kd.C_below HV.out XB.out) (m := 65535) (by decide)).mono ?_; rintro e w2 ⟨rfl, HB⟩; have XBn := Aside0.mk (below_step XB.out HB); have BKn := Aside0.mk (blk_below BK.out HB); obtain ⟨k0, k1, k2, k3, k4, k5, k6⟩ := cells7 BKn.out; clear HB XB BK; have XB := XBn; have BK := BKn))
     go_ret
     exact ⟨rfl, XB.out⟩
   ·have z2 : decide (1 ≤ c) = false := by simpa using hz2
    clear hz2
    have HR : Aside0 (chkB 23 a c v t n o = false) := ⟨by simp_all [chkB, wB] <;> (intros; omega)⟩
    rw [HR.out]
    go_enter Try.func10, Try.ntmps10
    go_wp2_with (first | ((with_reducible refine gate_dst (N := 1) rfl ?_); refine bx_ (N := 1) (cs := #[.int .i64 23, .int .i64 a, .int .i64 c, .slice A v.length cc, .int .i64 t, .int .i64 n, .int .i64 o]) (t := 31) ?_; intro g hg w1 hb HB; have XB := Aside0.mk HB; have BK := Aside0.mk hb; obtain ⟨k0, k1, k2, k3, k4, k5, k6⟩ := cells7 hb; clear hg hb HB) | (go_at_call 28; refine (is_c _ _).mono ?_; rintro e w' ⟨rfl, rfl⟩) | (go_at_call 26; refine (refspan_c _ _ _ (by omega) (by omega)).mono ?_; rintro e w' ⟨rfl, rfl⟩) | (go_at_call 27; refine (vals_c 23 a c A cc v t n o _ _ _ (Kd.C_below HV.out XB.out) (m := 65535) (by decide)).mono ?_; rintro e w2 ⟨rfl, HB⟩; have XBn := Aside0.mk (below_step XB.out HB); have BKn := Aside0.mk (blk_below BK.out HB); obtain ⟨k0, k1, k2, k3, k4, k5, k6⟩ := cells7 BKn.out; clear HB XB BK; have XB := XBn; have BK := BKn))
    go_ret
    exact ⟨rfl, XB.out⟩
  ·have z1 : (o == 0) = false := by simpa using hz1
   clear hz1
   have HR : Aside0 (chkB 23 a c v t n o = false) := ⟨by simp_all [chkB, wB] <;> (intros; omega)⟩
   rw [HR.out]
   go_enter Try.func10, Try.ntmps10
   go_wp2_with (first | ((with_reducible refine gate_dst (N := 1) rfl ?_); refine bx_ (N := 1) (cs := #[.int .i64 23, .int .i64 a, .int .i64 c, .slice A v.length cc, .int .i64 t, .int .i64 n, .int .i64 o]) (t := 31) ?_; intro g hg w1 hb HB; have XB := Aside0.mk HB; have BK := Aside0.mk hb; obtain ⟨k0, k1, k2, k3, k4, k5, k6⟩ := cells7 hb; clear hg hb HB) | (go_at_call 28; refine (is_c _ _).mono ?_; rintro e w' ⟨rfl, rfl⟩) | (go_at_call 26; refine (refspan_c _ _ _ (by omega) (by omega)).mono ?_; rintro e w' ⟨rfl, rfl⟩) | (go_at_call 27; refine (vals_c 23 a c A cc v t n o _ _ _ (Kd.C_below HV.out XB.out) (m := 65535) (by decide)).mono ?_; rintro e w2 ⟨rfl, HB⟩; have XBn := Aside0.mk (below_step XB.out HB); have BKn := Aside0.mk (blk_below BK.out HB); obtain ⟨k0, k1, k2, k3, k4, k5, k6⟩ := cells7 BKn.out; clear HB XB BK; have XB := XBn; have BK := BKn))
   go_ret
   exact ⟨rfl, XB.out⟩
 ·have z0 : (n == 0) = false := by simpa using hz0
  clear hz0
  have HR : Aside0 (chkB 23 a c v t n o = false) := ⟨by simp_all [chkB, wB] <;> (intros; omega)⟩
  rw [HR.out]
  go_enter Try.func10, Try.ntmps10
  go_wp2_with (first | ((with_reducible refine gate_dst (N := 1) rfl ?_); refine bx_ (N := 1) (cs := #[.int .i64 23, .int .i64 a, .int .i64 c, .slice A v.length cc, .int .i64 t, .int .i64 n, .int .i64 o]) (t := 31) ?_; intro g hg w1 hb HB; have XB := Aside0.mk HB; have BK := Aside0.mk hb; obtain ⟨k0, k1, k2, k3, k4, k5, k6⟩ := cells7 hb; clear hg hb HB) | (go_at_call 28; refine (is_c _ _).mono ?_; rintro e w' ⟨rfl, rfl⟩) | (go_at_call 26; refine (refspan_c _ _ _ (by omega) (by omega)).mono ?_; rintro e w' ⟨rfl, rfl⟩) | (go_at_call 27; refine (vals_c 23 a c A cc v t n o _ _ _ (Kd.C_below HV.out XB.out) (m := 65535) (by decide)).mono ?_; rintro e w2 ⟨rfl, HB⟩; have XBn := Aside0.mk (below_step XB.out HB); have BKn := Aside0.mk (blk_below BK.out HB); obtain ⟨k0, k1, k2, k3, k4, k5, k6⟩ := cells7 BKn.out; clear HB XB BK; have XB := XBn; have BK := BKn))
  go_ret
  exact ⟨rfl, XB.out⟩
end Go.Proofs.Ytlalpooiegganaa.Chk
end

section
namespace Go.Proofs.Ytlalpooiegganaa.Chk
open Go.RowKit Go.Proofs.YtlalpooiegganaaW.PrintWords Go.Proofs.YtlalpooiegganaaW.PrintLast Go.Proofs.YtlalpooiegganaaW.PrintMore Go.Proofs.Ytlalpooiegganaa.Core Go.Proofs.Ytlalpooiegganaa.Wk
set_option linter.unusedVariables false
set_option linter.unusedSimpArgs false
theorem chk_c (f a c : Int) (A : Option Addr) (cc : Nat) (v : List Int) (t n o : Int) (w : World) (hV : Kd.C (Kd.int .i64) w A v.length v) : Calls Try.prog 29 #[.agg #[.int .i64 f, .int .i64 a, .int .i64 c, .slice A v.length cc, .int .i64 t, .int .i64 n, .int .i64 o]] w fun e w' => e = .returned (.int .i64 (if chkB f a c v t n o then 0 else 1)) ∧ Below w.heap.size w w' := by
 by_cases h0 : f = 1
 ·subst h0; exact chk_1 a c A cc v t n o w hV
 by_cases h1 : f = 2
 ·subst h1; exact chk_2 a c A cc v t n o w hV
 by_cases h2 : f = 3
 ·subst h2; exact chk_3 a c A cc v t n o w hV
 by_cases h3 : f = 4
 ·subst h3; exact chk_4 a c A cc v t n o w hV
 by_cases h4 : f = 5
 ·subst h4; exact chk_5 a c A cc v t n o w hV
 by_cases h5 : f = 6
 ·subst h5; exact chk_6 a c A cc v t n o w hV
 by_cases h6 : f = 15
 ·subst h6; exact chk_15 a c A cc v t n o w hV
 by_cases h7 : f = 16
 ·subst h7; exact chk_16 a c A cc v t n o w hV
 by_cases h8 : f = 22
 ·subst h8; exact chk_22 a c A cc v t n o w hV
 by_cases h9 : f = 23
 ·subst h9; exact chk_23 a c A cc v t n o w hV
 exact chk_f f a c A cc v t n o w hV ⟨h0, h1, h2, h3, h4, h5, h6, h7, h8, h9⟩
theorem may_c (f a c : Int) (A : Option Addr) (cc : Nat) (v : List Int) (t n o : Int) (w : World) (hV : Kd.C (Kd.int .i64) w A v.length v) : Calls Try.prog 10 #[.agg #[.int .i64 f, .int .i64 a, .int .i64 c, .slice A v.length cc, .int .i64 t, .int .i64 n, .int .i64 o]] w fun e w' => e = .returned (.bool (chkB f a c v t n o)) ∧ Below w.heap.size w w' := by
 by_cases h0 : f = 1
 ·subst h0; exact may_1 a c A cc v t n o w hV
 by_cases h1 : f = 2
 ·subst h1; exact may_2 a c A cc v t n o w hV
 by_cases h2 : f = 3
 ·subst h2; exact may_3 a c A cc v t n o w hV
 by_cases h3 : f = 4
 ·subst h3; exact may_4 a c A cc v t n o w hV
 by_cases h4 : f = 5
 ·subst h4; exact may_5 a c A cc v t n o w hV
 by_cases h5 : f = 6
 ·subst h5; exact may_6 a c A cc v t n o w hV
 by_cases h6 : f = 15
 ·subst h6; exact may_15 a c A cc v t n o w hV
 by_cases h7 : f = 16
 ·subst h7; exact may_16 a c A cc v t n o w hV
 by_cases h8 : f = 22
 ·subst h8; exact may_22 a c A cc v t n o w hV
 by_cases h9 : f = 23
 ·subst h9; exact may_23 a c A cc v t n o w hV
 exact may_f f a c A cc v t n o w hV ⟨h0, h1, h2, h3, h4, h5, h6, h7, h8, h9⟩
theorem chk_yes (f a c : Int) (A : Option Addr) (cc : Nat) (v : List Int) (t n o : Int) (w : World) (hV : Kd.C (Kd.int .i64) w A v.length v) {b : Bool} (hb : chkB f a c v t n o = b) {x : Int} (hx : (if b then 0 else 1) = x) : Calls Try.prog 29 #[.agg #[.int .i64 f, .int .i64 a, .int .i64 c, .slice A v.length cc, .int .i64 t, .int .i64 n, .int .i64 o]] w fun e w' => e = .returned (.int .i64 x) ∧ Below w.heap.size w w' := by
 have h := chk_c f a c A cc v t n o w hV
 rw [hb] at h
 rw [← hx]
 exact h
end Go.Proofs.Ytlalpooiegganaa.Chk
end

section
namespace Go.Proofs.Ytlalpooiegganaa.MsgB
open Go.RowKit Go.Proofs.YtlalpooiegganaaW.PrintWords Go.Proofs.YtlalpooiegganaaW.PrintLast Go.Proofs.YtlalpooiegganaaW.PrintMore Go.Proofs.Ytlalpooiegganaa.Core Go.Proofs.Ytlalpooiegganaa.Wk Go.Proofs.Ytlalpooiegganaa.PMasterWaits Go.Proofs.Ytlalpooiegganaa.Msg
set_option linter.unusedVariables false
set_option linter.unusedSimpArgs false
section
variable {P : Program} {ops : Array Oper} {o : Oper} {a : Act} {Q : Exit → Act → World → Prop} {Kc : Act → World → Prop} {α : Type}
theorem ev_append_step (d : Kd α) {M : Nat → Prop} {w0 W : World} (base : Nat) (hw : Region.wanted o (yielded ops a.tmps) = true) (s x : Operand) (t e : TypeId) (z : Value) (bytes : Nat)
 (ho : o.op = .call { callee := .builtin .append, args := #[s, x], argTypes := #[t, t] })
 (ht : P.underlying t = some (.slice e)) (hinfo : (P.info? e).map (fun i => (i.zero, i.size, i.bytes)) = some (some z, d.sz, bytes)) (hz : z.cells.size = d.sz) (hs0 : 0 < d.sz) (hb0 : 0 < bytes)
 (v : Value) (xs : List α) (p : α) (ys : List Value) (hs : a.eval s = v) (hx : a.eval x = .slice (some ⟨W.heap.size, 0, none⟩) 1 1)
 (HO : OwnE d M e base W v xs) (hp : Ever (Mv M v) W (fun W => d.K W p ys)) (HB : Below base w0 W) (hbase : base ≤ W.heap.size) (hl : (xs.length + 1) * bytes ≤ 140737488355328)
 (h : ∀ v1 w1, OwnE d M e base w1 v1 (xs ++ [p]) → Below base w0 w1 → W.grownBy w1 v.ownBlock → (v1.ownBlock = v.ownBlock ∨ ∃ b, v1.ownBlock = some b ∧ W.heap.size ≤ b) → Kc (a.put o.dst v1) w1) :
 if Region.wanted o (yielded ops a.tmps) = true then Oper.wp P o a (W.alloc (.cells ys.toArray e)) Kc Q else Kc (a.put o.dst undef) (W.alloc (.cells ys.toArray e)) := by
 obtain ⟨inner, hown, hr⟩ := HO
 refine step_append_cells base hw s x t e z d.sz bytes ho ht hinfo hz hs0 hb0 v xs.length inner ys hs hx (d.K_len hp.now) (d.K_one hp.now) hown HB hbase hl (fun v1 w1 h1 h2 h3 h4 => ?_)
 have hE : Ext (Mv M v) W w1 := Ext.of_grown h3
 refine h v1 w1 ⟨inner ++ ys, by rw [List.length_append, List.length_singleton]; exact h1, ?_⟩ h2 h3 h4
 exact (hr.imp_ (fun _ _ k => k.grow hE (Mv_grow (w1 := w1) h4))).snoc (hp.grow hE (Mv_grow (w1 := w1) h4)) (d.K_len hp.now)
end
theorem IsOut.app {B : Nat} {W W' : World} {vl vo v' : Value} {o : Option (SV)} (h : IsOut B W vl vo o) (k : Ext (Mv (fun _ => False) vl) W W') (hat : v'.ownBlock = vl.ownBlock ∨ ∃ b, v'.ownBlock = some b ∧ W.heap.size ≤ b) : IsOut B W' v' vo o := by
 cases o with
 | none => exact h
 | some x =>
  obtain ⟨go, h1, h2, h3, h4⟩ := h
  refine ⟨go, h1, Ext.blk k h2 (fun e => e.elim (fun a => a) (fun a => h4 go a.symm rfl)), h3, fun j hj e => ?_⟩
  rcases hat with a | ⟨b, a, hb⟩
  ·exact h4 j (a.symm.trans hj) e
  ·have := blk_lt h2
   rw [hj] at a
   injection a with a
   omega
theorem keeps_app {B : Nat} {W W' : World} {vl : Value} {l : List SV} (h : OwnE ks (fun _ => False) 39 B W vl l) (k : Ext (Mv (fun _ => False) vl) W W') : Keeps W W' := fun j cs T hc _ h2 =>
 Ext.blk k hc (fun e => by
  rcases e with e | e
  ·exact e
  ·obtain ⟨i, h1, _⟩ := h
   obtain ⟨cells, hb⟩ := own_typed h1 j e.symm
   rw [hb] at hc
   injection hc with hc
   injection hc with _ hc _
   exact h2 hc.symm)
theorem chk_q {q : SV} {vs : List Int} {w : World} (hC : Kd.C (Kd.int .i64) w q.A vs.length vs) (hl : vs.length = q.l) (hb : Chk.chkB q.f q.a q.c vs q.o q.n q.r = true) : Calls Try.prog 29 #[.agg #[.int .i64 q.f, .int .i64 q.a, .int .i64 q.c, .slice q.A q.l q.k, .int .i64 q.o, .int .i64 q.n, .int .i64 q.r]] w fun e w' => e = .returned (.int .i64 0) ∧ Below w.heap.size w w' := by
 rw [← hl]
 exact Chk.chk_yes q.f q.a q.c q.A q.k vs q.o q.n q.r w hC hb rfl
theorem clone_q {q : SV} {vs : List Int} {w : World} (hC : Kd.C (Kd.int .i64) w q.A vs.length vs) (hl : vs.length = q.l) (hb : vs.length ≤ 100000) : Calls Try.prog 30 #[.slice q.A q.l q.k] w fun e w' => ∃ A' k', e = .returned (.slice A' q.l k') ∧ q.l ≤ k' ∧ IRow w' A' q.l vs ∧ Below w.heap.size w w' := by
 rw [← hl]
 exact clone_k hC hb
set_option maxHeartbeats 4000000 in
set_option maxRecDepth 100000 in
theorem ask_c {B : Nat} {w : World} {g m : Nat} {wait again pause now tk times last : Int} {line : List (SV)} {rest : Int → Int} {out : Option SV} {q : SV} {vs : List Int} (h : IsM B w g m ⟨wait, again, pause, now, tk, line, out, times, last, rest⟩) (hB : B ≤ w.heap.size) (unit : Int) (h0 : 0 ≤ unit) (h1 : unit ≤ 247) (hl : line.length < 64) (hV : Ever (Mm B g m) w (fun W => Kd.C (Kd.int .i64) W q.A vs.length vs)) (hvl : vs.length = q.l) (hvs : vs.length ≤ 100000) (hck : Chk.chkB q.f q.a q.c vs q.o q.n q.r = true) : Calls Try.prog 11 #[.pointer (some ⟨g, 0, none⟩), .int .i64 unit, .agg #[.int .i64 q.f, .int .i64 q.a, .int .i64 q.c, .slice q.A q.l q.k, .int .i64 q.o, .int .i64 q.n, .int .i64 q.r]] w fun e w' => ∃ A' k', e = .returned (.tuple #[.int .i64 (wrap64 (tk + 1)), .int .i64 0]) ∧ q.l ≤ k' ∧ IRow w' A' q.l vs ∧ IsM B w' g m ⟨wait, again, pause, now, wrap64 (tk + 1), line ++ [⟨wrap64 (tk + 1), unit, q.f, q.a, q.c, A', q.l, k', q.o, q.n, q.r⟩], out, times, last, rest⟩ ∧ Ext (Mm B g m) w w' ∧ Keeps w w' := by
 have q0 : decide (unit < 0) = false := decide_eq_false (by omega)
 have q1 : decide (247 < unit) = false := decide_eq_false (by omega)
 have q2 : decide (64 ≤ (line.length : Int)) = false := decide_eq_false (by omega)
 have HLL := Aside0.mk hl; have HV := Aside0.mk hV; have HVL := Aside0.mk hvl; have HVS := Aside0.mk hvs; have HCK := Aside0.mk hck
 clear h0 h1 hl hV hvl hvs hck
 have HBW := Aside0.mk hB
 obtain ⟨⟨vl, vo, hb, hl, ho⟩, ⟨f, n, hm, hf⟩⟩ := h
 have BK_g : Aside0 (w.heap[g]? = some (.cells #[.int .i64 wait, .int .i64 again, .int .i64 pause, .int .i64 now, .int .i64 tk, vl, vo, .int .i64 times, .int .i64 last, .map (some m)] 73 (0, 0))) := ⟨hb⟩
 have OB_l : Aside0 (OwnE ks (fun _ => False) 39 B w vl (line)) := ⟨hl⟩
 have MP_m := Aside0.mk hm; have HF := Aside0.mk hf
 have NE_l_g : Aside0 (∀ k, (vl).ownBlock = some k → k ≠ g) := ⟨ks_ne hl hb (by decide)⟩; have NE_l_m : Aside0 (∀ k, (vl).ownBlock = some k → k ≠ m) := ⟨ks_nm hl hm⟩; have NE_g_m : Aside0 (g ≠ m) := ⟨cell_nm hb hm⟩; have NE_m_g : Aside0 (m ≠ g) := ⟨fun e => NE_g_m.out e.symm⟩; have F_g : Aside0 (∀ k, k = g → Mm B g m k ∨ w.heap.size ≤ k) := ⟨fun k e => .inl (.inl e)⟩; have F_m : Aside0 (∀ k, k = m → Mm B g m k ∨ w.heap.size ≤ k) := ⟨fun k e => .inl (.inr (.inl e))⟩
 have HO : Aside0 (IsOut B w vl vo out) := ⟨ho⟩; clear ho
 clear hb hl hm hf hB
 have XT : Aside0 (Ext (Mm B g m) w w) := ⟨Ext.refl _ _⟩
 refine cl10_ BK_g.out ?_; intro lc1_0 lc1_1 lc1_2 lc1_3 lc1_4 lc1_5 lc1_6 lc1_7 lc1_8 lc1_9 lf1_0 lf1_1 lf1_2 lf1_3 lf1_4 lf1_5 lf1_6 lf1_7 lf1_8 lf1_9
 have hu31 := Try.underlying31; have hu39 := Try.underlying39
 obtain ⟨A, c, rfl⟩ := OB_l.out.slice
 have KP : Aside0 (Keeps w w) := ⟨fun _ _ _ h _ _ => h⟩
 go_enter Try.func11, Try.ntmps11
 go_upto_region 9 with (first | ((with_reducible refine gate_dst (N := 5) rfl ?_); refine bx_ (N := 5) (cs := #[.int .i64 q.f, .int .i64 q.a, .int .i64 q.c, .slice q.A q.l q.k, .int .i64 q.o, .int .i64 q.n, .int .i64 q.r]) (t := 31) ?_; intro b hg w1 hbox HBc; have NE_l_b : Aside0 (∀ k, ((Value.slice A line.length c)).ownBlock = some k → k ≠ b) := ⟨fun k hk e => by have := OwnE.lt OB_l.out k hk; omega⟩; have NE_g_b : Aside0 (g ≠ b) := ⟨ne_born (blk_lt BK_g.out) hg⟩; have NE_b_g : Aside0 (b ≠ g) := ⟨fun e => NE_g_b.out e.symm⟩; have NE_m_b : Aside0 (m ≠ b) := ⟨ne_born (IsMap.lt MP_m.out) hg⟩; have NE_b_m : Aside0 (b ≠ m) := ⟨fun e => NE_m_b.out e.symm⟩; have F_b : Aside0 (∀ k, k = b → (Mm B g m) k ∨ w.heap.size ≤ k) := ⟨fnew hg XT.out.size⟩; have RG_b : Aside0 (w.heap.size ≤ b) := ⟨Nat.le_trans XT.out.size (Nat.le_of_eq hg.symm)⟩; have BG_b : Aside0 (B ≤ b) := ⟨Nat.le_trans HBW.out RG_b.out⟩; clear hg; replace OB_l := Aside0.mk (ks_mv OB_l.out (Ext.none_ HBc) (fun _ _ e => e)); replace KP := Aside0.mk (keeps_then KP.out HBc); replace HO := Aside0.mk (HO.out.below HBc); clear lc1_0 lc1_1 lc1_2 lc1_3 lc1_4 lc1_5 lc1_6 lc1_7 lc1_8 lc1_9 lf1_0 lf1_1 lf1_2 lf1_3 lf1_4 lf1_5 lf1_6 lf1_7 lf1_8 lf1_9; replace BK_g := Aside0.mk (Ext.blk (Ext.none_ HBc) BK_g.out (fun e => e)); replace MP_m := Aside0.mk (IsMap.ext MP_m.out (Ext.none_ HBc) (fun e => e)); replace XT := Aside0.mk (XT.out.stepB HBc); have BK_b : Aside0 (w1.heap[b]? = some (.cells #[.int .i64 q.f, .int .i64 q.a, .int .i64 q.c, .slice q.A q.l q.k, .int .i64 q.o, .int .i64 q.n, .int .i64 q.r] 31 (0, 0))) := ⟨hbox⟩; clear hbox HBc; refine cl10_ BK_g.out ?_; intro lc2_0 lc2_1 lc2_2 lc2_3 lc2_4 lc2_5 lc2_6 lc2_7 lc2_8 lc2_9 lf2_0 lf2_1 lf2_2 lf2_3 lf2_4 lf2_5 lf2_6 lf2_7 lf2_8 lf2_9; refine cl7_ BK_b.out ?_; intro lc3_0 lc3_1 lc3_2 lc3_3 lc3_4 lc3_5 lc3_6 lf3_0 lf3_1 lf3_2 lf3_3 lf3_4 lf3_5 lf3_6) | (go_at_call 29; refine (chk_q (HV.out.at_ _ XT.out) HVL.out HCK.out).mono ?_; rintro e w2 ⟨rfl, HBc⟩; replace OB_l := Aside0.mk (ks_mv OB_l.out (Ext.none_ HBc) (fun _ _ e => e)); replace KP := Aside0.mk (keeps_then KP.out HBc); replace HO := Aside0.mk (HO.out.below HBc); clear lc2_0 lc2_1 lc2_2 lc2_3 lc2_4 lc2_5 lc2_6 lc2_7 lc2_8 lc2_9 lf2_0 lf2_1 lf2_2 lf2_3 lf2_4 lf2_5 lf2_6 lf2_7 lf2_8 lf2_9 lc3_0 lc3_1 lc3_2 lc3_3 lc3_4 lc3_5 lc3_6 lf3_0 lf3_1 lf3_2 lf3_3 lf3_4 lf3_5 lf3_6; replace BK_g := Aside0.mk (Ext.blk (Ext.none_ HBc) BK_g.out (fun e => e)); replace BK_b := Aside0.mk (Ext.blk (Ext.none_ HBc) BK_b.out (fun e => e)); replace MP_m := Aside0.mk (IsMap.ext MP_m.out (Ext.none_ HBc) (fun e => e)); replace XT := Aside0.mk (XT.out.stepB HBc); clear HBc; refine cl10_ BK_g.out ?_; intro lc4_0 lc4_1 lc4_2 lc4_3 lc4_4 lc4_5 lc4_6 lc4_7 lc4_8 lc4_9 lf4_0 lf4_1 lf4_2 lf4_3 lf4_4 lf4_5 lf4_6 lf4_7 lf4_8 lf4_9; refine cl7_ BK_b.out ?_; intro lc5_0 lc5_1 lc5_2 lc5_3 lc5_4 lc5_5 lc5_6 lf5_0 lf5_1 lf5_2 lf5_3 lf5_4 lf5_5 lf5_6) | ((with_reducible refine gate_store (p := 36) rfl ?_); refine store_event (w1 := ?_) rfl (p := 36) rfl rfl ?hr ?_; rotate_left; (case hr => go_simp; rfl); intro w3 hw_; obtain ⟨hput, HEc⟩ := put1 (cs' := #[.int .i64 wait, .int .i64 again, .int .i64 pause, .int .i64 now, .int .i64 (wrap64 (tk + 1)), .slice A line.length c, vo, .int .i64 times, .int .i64 last, .map (some m)]) hw_ BK_g.out rfl; clear hw_; replace OB_l := Aside0.mk (ks_mv OB_l.out HEc NE_l_g.out); replace KP := Aside0.mk (keeps_set KP.out HEc BK_g.out (.inl rfl)); replace HO := Aside0.mk (HO.out.set HEc BK_g.out (by decide)); clear lc4_0 lc4_1 lc4_2 lc4_3 lc4_4 lc4_5 lc4_6 lc4_7 lc4_8 lc4_9 lf4_0 lf4_1 lf4_2 lf4_3 lf4_4 lf4_5 lf4_6 lf4_7 lf4_8 lf4_9 lc5_0 lc5_1 lc5_2 lc5_3 lc5_4 lc5_5 lc5_6 lf5_0 lf5_1 lf5_2 lf5_3 lf5_4 lf5_5 lf5_6; replace BK_b := Aside0.mk (Ext.blk HEc BK_b.out NE_b_g.out); replace MP_m := Aside0.mk (IsMap.ext MP_m.out HEc NE_m_g.out); replace XT := Aside0.mk (XT.out.step HEc (F_g.out)); clear BK_g; have BK_g : Aside0 (w3.heap[g]? = some (.cells #[.int .i64 wait, .int .i64 again, .int .i64 pause, .int .i64 now, .int .i64 (wrap64 (tk + 1)), .slice A line.length c, vo, .int .i64 times, .int .i64 last, .map (some m)] 73 (0, 0))) := ⟨hput⟩; clear hput HEc; refine cl10_ BK_g.out ?_; intro lc6_0 lc6_1 lc6_2 lc6_3 lc6_4 lc6_5 lc6_6 lc6_7 lc6_8 lc6_9 lf6_0 lf6_1 lf6_2 lf6_3 lf6_4 lf6_5 lf6_6 lf6_7 lf6_8 lf6_9; refine cl7_ BK_b.out ?_; intro lc7_0 lc7_1 lc7_2 lc7_3 lc7_4 lc7_5 lc7_6 lf7_0 lf7_1 lf7_2 lf7_3 lf7_4 lf7_5 lf7_6) | (go_at_call 30; refine (clone_q (HV.out.at_ _ XT.out) HVL.out HVS.out).mono ?_; rintro e w4 ⟨A', k', rfl, hkc, hin, HBc⟩; have HKC := Aside0.mk hkc; clear hkc; replace OB_l := Aside0.mk (ks_mv OB_l.out (Ext.none_ HBc) (fun _ _ e => e)); replace KP := Aside0.mk (keeps_then KP.out HBc); replace HO := Aside0.mk (HO.out.below HBc); clear lc6_0 lc6_1 lc6_2 lc6_3 lc6_4 lc6_5 lc6_6 lc6_7 lc6_8 lc6_9 lf6_0 lf6_1 lf6_2 lf6_3 lf6_4 lf6_5 lf6_6 lf6_7 lf6_8 lf6_9 lc7_0 lc7_1 lc7_2 lc7_3 lc7_4 lc7_5 lc7_6 lf7_0 lf7_1 lf7_2 lf7_3 lf7_4 lf7_5 lf7_6; replace BK_g := Aside0.mk (Ext.blk (Ext.none_ HBc) BK_g.out (fun e => e)); replace BK_b := Aside0.mk (Ext.blk (Ext.none_ HBc) BK_b.out (fun e => e)); replace MP_m := Aside0.mk (IsMap.ext MP_m.out (Ext.none_ HBc) (fun e => e)); replace XT := Aside0.mk (XT.out.stepB HBc); have IR_n : Aside0 (IRow w4 (A') (q.l) (vs)) := ⟨hin⟩; clear hin HBc; refine cl10_ BK_g.out ?_; intro lc8_0 lc8_1 lc8_2 lc8_3 lc8_4 lc8_5 lc8_6 lc8_7 lc8_8 lc8_9 lf8_0 lf8_1 lf8_2 lf8_3 lf8_4 lf8_5 lf8_6 lf8_7 lf8_8 lf8_9; refine cl7_ BK_b.out ?_; intro lc9_0 lc9_1 lc9_2 lc9_3 lc9_4 lc9_5 lc9_6 lf9_0 lf9_1 lf9_2 lf9_3 lf9_4 lf9_5 lf9_6) | ((with_reducible refine gate_store (p := 40) rfl ?_); refine store_event (w1 := ?_) rfl (p := 40) rfl rfl ?hr ?_; rotate_left; (case hr => go_simp; rfl); intro w5 hw_; obtain ⟨hput, HEc⟩ := put1 (cs' := #[.int .i64 q.f, .int .i64 q.a, .int .i64 q.c, .slice A' q.l k', .int .i64 q.o, .int .i64 q.n, .int .i64 q.r]) hw_ BK_b.out rfl; clear hw_; replace OB_l := Aside0.mk (ks_mv OB_l.out HEc NE_l_b.out); replace IR_n := Aside0.mk (irow_set IR_n.out HEc BK_b.out (by decide)); replace KP := Aside0.mk (keeps_set KP.out HEc BK_b.out (.inr (.inr RG_b.out))); replace HO := Aside0.mk (HO.out.set HEc BK_b.out (by decide)); clear lc8_0 lc8_1 lc8_2 lc8_3 lc8_4 lc8_5 lc8_6 lc8_7 lc8_8 lc8_9 lf8_0 lf8_1 lf8_2 lf8_3 lf8_4 lf8_5 lf8_6 lf8_7 lf8_8 lf8_9 lc9_0 lc9_1 lc9_2 lc9_3 lc9_4 lc9_5 lc9_6 lf9_0 lf9_1 lf9_2 lf9_3 lf9_4 lf9_5 lf9_6; replace BK_g := Aside0.mk (Ext.blk HEc BK_g.out NE_g_b.out); replace MP_m := Aside0.mk (IsMap.ext MP_m.out HEc NE_m_b.out); replace XT := Aside0.mk (XT.out.step HEc (F_b.out)); clear BK_b; have BK_b : Aside0 (w5.heap[b]? = some (.cells #[.int .i64 q.f, .int .i64 q.a, .int .i64 q.c, .slice A' q.l k', .int .i64 q.o, .int .i64 q.n, .int .i64 q.r] 31 (0, 0))) := ⟨hput⟩; clear hput HEc; refine cl10_ BK_g.out ?_; intro lc10_0 lc10_1 lc10_2 lc10_3 lc10_4 lc10_5 lc10_6 lc10_7 lc10_8 lc10_9 lf10_0 lf10_1 lf10_2 lf10_3 lf10_4 lf10_5 lf10_6 lf10_7 lf10_8 lf10_9; refine cl7_ BK_b.out ?_; intro lc11_0 lc11_1 lc11_2 lc11_3 lc11_4 lc11_5 lc11_6 lf11_0 lf11_1 lf11_2 lf11_3 lf11_4 lf11_5 lf11_6))
 clear lc10_0 lc10_1 lc10_2 lc10_3 lc10_4 lc10_5 lc10_6 lc10_7 lc10_8 lc10_9 lf10_0 lf10_1 lf10_2 lf10_3 lf10_4 lf10_5 lf10_6 lf10_7 lf10_8 lf10_9 lc11_0 lc11_1 lc11_2 lc11_3 lc11_4 lc11_5 lc11_6 lf11_0 lf11_1 lf11_2 lf11_3 lf11_4 lf11_5 lf11_6
 refine start_ (n := 17) (S := fun W => W.cell? ⟨g, 4, none⟩ = some (.int .i64 (wrap64 (tk + 1))) ∧ W.cell? ⟨g, 5, none⟩ = some (.slice A line.length c) ∧ W.cell? ⟨b, 0, none⟩ = some (.int .i64 q.f) ∧ W.cell? ⟨b, 1, none⟩ = some (.int .i64 q.a) ∧ W.cell? ⟨b, 2, none⟩ = some (.int .i64 q.c) ∧ W.cell? ⟨b, 3, none⟩ = some (.slice A' q.l k') ∧ W.cell? ⟨b, 4, none⟩ = some (.int .i64 q.o) ∧ W.cell? ⟨b, 5, none⟩ = some (.int .i64 q.n) ∧ W.cell? ⟨b, 6, none⟩ = some (.int .i64 q.r)) (ds := [16]) (fl 17 0) (by kernel_rfl) rfl (by kernel_rfl) ?_ (fun hHeld => ?_)
 ·exact ⟨(blk_cell (bk_ BK_g) 4).trans rfl, (blk_cell (bk_ BK_g) 5).trans rfl, (blk_cell (bk_ BK_b) 0).trans rfl, (blk_cell (bk_ BK_b) 1).trans rfl, (blk_cell (bk_ BK_b) 2).trans rfl, (blk_cell (bk_ BK_b) 3).trans rfl, (blk_cell (bk_ BK_b) 4).trans rfl, (blk_cell (bk_ BK_b) 5).trans rfl, (blk_cell (bk_ BK_b) 6).trans rfl⟩
 refine pu_ 0 41 (fl 17 1) rfl rfl (by kernel_rfl) ?_
 refine pu_ 1 42 (fl 17 3) rfl rfl (by kernel_rfl) ?_
 refine pu_ 2 43 (fl 17 7) rfl rfl (by kernel_rfl) ?_
 refine pu_ 3 44 (fl 17 15) rfl rfl (by kernel_rfl) ?_
 refine tk_ 4 45 (fl 17 31) rfl rfl (by kernel_rfl) hHeld ?_
 refine pu_ 5 46 (fl 17 63) rfl rfl (by kernel_rfl) ?_
 refine pu_ 6 47 (fl 17 127) rfl rfl (by kernel_rfl) ?_
 refine pu_ 7 48 (fl 17 255) rfl rfl (by kernel_rfl) ?_
 refine tk_ 8 49 (fl 17 511) rfl rfl (by kernel_rfl) hHeld ?_
 refine pu_ 9 50 (fl 17 1023) rfl rfl (by kernel_rfl) ?_
 refine tk_ 10 51 (fl 17 2047) rfl rfl (by kernel_rfl) hHeld ?_
 refine pu_ 11 52 (fl 17 4095) rfl rfl (by kernel_rfl) ?_
 refine one_ (i := 12) (N := some 53) (fl 17 8191) rfl rfl (by kernel_rfl) (by decide) (fun K hK => ?_)
 refine value_ (v := ?vv) (w1 := ?ww) (by rfl) rfl ?hr ?kk
 case hr => (go_simp; refine And.intro ?_ ?_ <;> rfl)
 refine hK.out _ _ ?_ (fun hHeld => ?_)
 ·exact ⟨(blk_cell (bk_ BK_g) 4).trans rfl, (blk_cell (bk_ BK_g) 5).trans rfl, (blk_cell (bk_ BK_b) 0).trans rfl, (blk_cell (bk_ BK_b) 1).trans rfl, (blk_cell (bk_ BK_b) 2).trans rfl, (blk_cell (bk_ BK_b) 3).trans rfl, (blk_cell (bk_ BK_b) 4).trans rfl, (blk_cell (bk_ BK_b) 5).trans rfl, (blk_cell (bk_ BK_b) 6).trans rfl⟩
 clear hK K
 refine norm_ (a' := ?_) ?_ ?_
 rotate_left
 ·show Act.put _ (some 53) _ = _
  simp only [Act.put, List.setIfInBounds_toArray, List.set_cons_zero, List.set_cons_succ, i64_w, i32_w]
  rfl
 refine one_ (i := 13) (N := some 54) (fl 17 16383) rfl rfl (by kernel_rfl) (by decide) (fun K hK => ?_)
 refine ev_append_step ks (M := fun _ => False) (w0 := w5) (W := w5.drew) B (by rfl) (.tmp 45) (.tmp 53) 34 39 (.agg #[.int .i64 0, .int .i64 0, .int .i64 0, .int .i64 0, .int .i64 0, .slice none 0 0, .int .i64 0, .int .i64 0, .int .i64 0]) 88 rfl Try.underlying34 info39 rfl (by decide) (by decide) (Value.slice A line.length c) line ⟨wrap64 (tk + 1), unit, q.f, q.a, q.c, A', q.l, k', q.o, q.n, q.r⟩ [.int .i64 (wrap64 (tk + 1)), .int .i64 unit, .int .i64 q.f, .int .i64 q.a, .int .i64 q.c, .slice A' q.l k', .int .i64 q.o, .int .i64 q.n, .int .i64 q.r] rfl rfl ?aO ?aP ?aB ?aS ?aL ?_
 case aO => exact ks_mv OB_l.out (Ext.none_ (by repeat (first | exact Below.refl _ _ | apply pw_below_drewN | apply below_drew1))) (fun _ _ e => e)
 case aP => exact Ever.triv (p := _ = sc _) rfl
 case aB => exact (by repeat (first | exact Below.refl _ _ | apply pw_below_drewN | apply below_drew1))
 case aS => exact Nat.le_trans HBW.out XT.out.size
 case aL => (have := HLL.out; omega)
 intro v9 w9 HO9 HB9 hg9 hat9
 have HEc : Ext (Mv (fun _ => False) (Value.slice A line.length c)) w5 w9 := (Ext.of_below (by repeat (first | exact Below.refl _ _ | apply pw_below_drewN | apply below_drew1))).trans (Ext.of_grown hg9)
 have BKn_g : Aside0 (w9.heap[g]? = some (.cells #[.int .i64 wait, .int .i64 again, .int .i64 pause, .int .i64 now, .int .i64 (wrap64 (tk + 1)), .slice A line.length c, vo, .int .i64 times, .int .i64 last, .map (some m)] 73 (0, 0))) := ⟨Ext.blk HEc BK_g.out (fun e => e.elim (fun a => a) (fun a => NE_l_g.out g a.symm rfl))⟩
 have BKn_b : Aside0 (w9.heap[b]? = some (.cells #[.int .i64 q.f, .int .i64 q.a, .int .i64 q.c, .slice A' q.l k', .int .i64 q.o, .int .i64 q.n, .int .i64 q.r] 31 (0, 0))) := ⟨Ext.blk HEc BK_b.out (fun e => e.elim (fun a => a) (fun a => NE_l_b.out b a.symm rfl))⟩
 have MPn : Aside0 (IsMap w9 m f n) := ⟨MP_m.out.ext HEc (fun e => e.elim (fun a => a) (fun a => NE_l_m.out m a.symm rfl))⟩
 have HOn : Aside0 (IsOut B w9 v9 vo out) := ⟨IsOut.app HO.out HEc hat9⟩
 have XTn : Aside0 (Ext (Mm B g m) w w9) := ⟨XT.out.grow HEc (fun k e => e.elim (fun a => a.elim) (fun a => .inl (.inr (.inr (OB_l.out.base_le k a.symm)))))⟩
 have LNn : Aside0 (∀ k, v9.ownBlock = some k → k ≠ g) := ⟨ks_ne HO9 BKn_g.out (by decide)⟩
 have KPa := keeps_app OB_l.out HEc
 have KPn : Aside0 (Keeps w w9) := ⟨KP.out.trans KPa⟩
 have IRx : Aside0 (IRow w9 (A') (q.l) (vs)) := ⟨KPa.row IR_n.out⟩
 have HOw := Aside0.mk HO9
 clear HO9 HB9 hg9 hat9 HEc BK_g BK_b MP_m HO XT OB_l NE_l_g NE_l_m NE_l_b KP IR_n KPa
 have BK_g := BKn_g; have BK_b := BKn_b; have MP_m := MPn; have HO := HOn; have XT := XTn; have NE_l_g := LNn; have OB_l := HOw; have KP := KPn; have IR_n := IRx; clear BKn_g BKn_b MPn HOn XTn LNn HOw KPn IRx
 obtain ⟨A9, c9, e9⟩ := OB_l.out.slice
 rw [show (line ++ [(⟨wrap64 (tk + 1), unit, q.f, q.a, q.c, A', q.l, k', q.o, q.n, q.r⟩ : SV)]).length = line.length + 1 from by simp] at e9
 subst e9
 refine hK.out _ _ ?_ (fun hHeld => ?_)
 ·exact ⟨(blk_cell (bk_ BK_g) 4).trans rfl, (blk_cell (bk_ BK_g) 5).trans rfl, (blk_cell (bk_ BK_b) 0).trans rfl, (blk_cell (bk_ BK_b) 1).trans rfl, (blk_cell (bk_ BK_b) 2).trans rfl, (blk_cell (bk_ BK_b) 3).trans rfl, (blk_cell (bk_ BK_b) 4).trans rfl, (blk_cell (bk_ BK_b) 5).trans rfl, (blk_cell (bk_ BK_b) 6).trans rfl⟩
 clear hK K
 refine norm_ (a' := ?_) ?_ ?_
 rotate_left
 ·show Act.put _ (some 54) _ = _
  simp only [Act.put, List.setIfInBounds_toArray, List.set_cons_zero, List.set_cons_succ, i64_w, i32_w]
  rfl
 refine pu_ 14 55 (fl 17 32767) rfl rfl (by kernel_rfl) ?_
 refine pu_ 15 56 (fl 17 65535) rfl rfl (by kernel_rfl) ?_
 refine last_ (i := 16) (N := none) (fl 17 131071) rfl rfl (by kernel_rfl) (by decide) (fun K hK => ?_)
 have lz : w9.cell? ⟨g, 5, none⟩ = some (.slice A line.length c) := (blk_cell BK_g.out 5).trans rfl
 have lzf := blk_frozen BK_g.out 5
 refine skip_ (w1 := ?_) (by rfl) rfl ?_ ?_
 rotate_left
 ·go_simp
  rfl
 clear lz lzf
 generalize hw_ : World.setCell w9 ⟨g, 5, none⟩ _ = w10
 obtain ⟨hput, HEc⟩ := put1 (cs' := #[.int .i64 wait, .int .i64 again, .int .i64 pause, .int .i64 now, .int .i64 (wrap64 (tk + 1)), .slice A9 (line.length + 1) c9, vo, .int .i64 times, .int .i64 last, .map (some m)]) hw_.symm BK_g.out rfl
 clear hw_
 have HOn : Aside0 (IsOut B w10 (.slice A9 (line.length + 1) c9) vo out) := ⟨HO.out.set HEc BK_g.out (by decide)⟩
 have OBn := Aside0.mk (ks_mv OB_l.out HEc NE_l_g.out)
 have MPn : Aside0 (IsMap w10 m f n) := ⟨MP_m.out.ext HEc NE_m_g.out⟩
 have XTn : Aside0 (Ext (Mm B g m) w w10) := ⟨XT.out.step HEc F_g.out⟩
 have KPn : Aside0 (Keeps w w10) := ⟨keeps_set KP.out HEc BK_g.out (.inl rfl)⟩
 have IRx : Aside0 (IRow w10 (A') (q.l) (vs)) := ⟨irow_set IR_n.out HEc BK_g.out (by decide)⟩
 have BKn := Aside0.mk hput
 clear BK_g BK_b MP_m HO XT OB_l hput HEc KP IR_n
 have BK_g := BKn; have MP_m := MPn; have HO := HOn; have XT := XTn; have OB_l := OBn; have KP := KPn; have IR_n := IRx; clear BKn MPn HOn XTn OBn KPn IRx
 have ly4 : w10.cell? ⟨g, 4, none⟩ = some (.int .i64 (wrap64 (tk + 1))) := (blk_cell BK_g.out 4).trans rfl
 refine hK.out _ _ ?_
 clear hK K
 refine done_ (by kernel_rfl) ?_
 go_wp2
 go_ret2
 exact ⟨A', k', rfl, HKC.out, IR_n.out, ⟨⟨_, _, BK_g.out, OB_l.out, HO.out⟩, ⟨_, _, MP_m.out, HF.out⟩⟩, XT.out, KP.out⟩
end Go.Proofs.Ytlalpooiegganaa.MsgB
end

section
namespace Go.Proofs.Ytlalpooiegganaa.MsgC
open Go.RowKit Go.Proofs.YtlalpooiegganaaW.PrintWords Go.Proofs.YtlalpooiegganaaW.PrintLast Go.Proofs.YtlalpooiegganaaW.PrintMore Go.Proofs.Ytlalpooiegganaa.Core Go.Proofs.Ytlalpooiegganaa.Wk Go.Proofs.Ytlalpooiegganaa.PMasterWaits Go.Proofs.Ytlalpooiegganaa.Msg
set_option linter.unusedVariables false
set_option linter.unusedSimpArgs false
def Z39 : Value := .agg #[.int .i64 0, .int .i64 0, .int .i64 0, .int .i64 0, .int .i64 0, .slice none 0 0, .int .i64 0, .int .i64 0, .int .i64 0]
theorem own_room {W : World} {base g cap : Nat} {cs : Array Value} (hg : W.heap[g]? = some (.cells cs 39 (0, 0))) (hb : base ≤ g) (hc : cs.size = cap * 9) (hm : cap ≤ 9223372036854775807) : OwnE ks (fun _ => False) 39 base W (.slice (some ⟨g, 0, none⟩) 0 cap) [] :=
 ⟨[], ⟨by simp, .inr ⟨g, cap, cs, rfl, hb, hg, Nat.zero_le _, by simpa [maxLen] using hm, by simpa [ks] using hc, by simp⟩⟩, Reps.none _ _⟩
set_option maxHeartbeats 4000000 in
set_option maxRecDepth 100000 in
theorem grow_c (n : Nat) (w : World) (hn : n ≤ 1000) :
 Calls Try.prog 47 #[.slice none 0 0, .int .i64 n] w fun e w' => ∃ v, e = .returned v ∧ OwnE ks (fun _ => False) 39 w.heap.size w' v [] ∧ Below w.heap.size w w' := by
 obtain ⟨i0, hi, hz0, hz1, hz2⟩ := info_parts info39
 have h3 : wrap64 (n : Int) = n := by unfold wrap64; omega
 rcases Nat.eq_zero_or_pos n with rfl | hp
 ·go_enter Try.func47, Try.ntmps47
  go_wp2
  go_ret
  exact ⟨_, rfl, OwnE.nil _ _ _ _ _, Below.refl _ _⟩
 ·have hrz : ∀ ty, (Builtin.append_ #[34, 3] ty #[.slice none 0 0, .int .i64 (n : Int)]).run Try.prog w =
   .ok (.slice (some ⟨w.heap.size, 0, none⟩) n (grownCap w n 0 39)) (w.drew.alloc (.cells (#[] ++ Builtin.zeroCells Z39.cells n ++ Builtin.zeroCells Z39.cells (grownCap w n 0 39 - n)) 39)) := fun ty => by
   have h := Lib.run_append_grow_zeros (P := Try.prog) w 34 3 ty 39 i0 Z39 .i64 .i64 Try.underlying34 Try.underlying3 hi hz0 none 0 0 [] (run_firstCells_none (P := Try.prog) (w := w.drew) i0.size 0 0 0) n hp (by omega) (by omega) (by omega) (by rw [hz2]; omega) (by rw [hz2]; have := growslice_fits (need := 0 + n) (old := 0) (bytes := 88) (by omega) (by omega); omega)
   simpa using h
  have hGn : n ≤ grownCap w n 0 39 := grownCap_ge w _ _ _
  have hG63 := grownCap_le_maxLen w n 0 39 (by unfold maxLen; omega)
  obtain ⟨G, hG⟩ : ∃ G, G = grownCap w n 0 39 := ⟨_, rfl⟩
  rw [← hG] at hrz hGn hG63
  unfold maxLen at hG63
  clear hG
  have hpos : (n : Int) > 0 := by omega
  obtain ⟨zc, hzc⟩ : ∃ z, z = Z39.cells := ⟨_, rfl⟩
  have hz9 : zc.size = 9 := by rw [hzc]; rfl
  rw [← hzc] at hrz
  clear hzc
  go_enter Try.func47, Try.ntmps47
  go_wp2_with (at_builtin; refine Lib.wpList_append_run _ rfl _ _ _ _ rfl _ _ rfl rfl _ _ (hrz _) ?_)
  go_ret
  refine ⟨_, rfl, own_room (cs := Builtin.zeroCells zc n ++ Builtin.zeroCells zc (G - n)) ?_ (Nat.le_refl _) ?_ hG63, below_alloc (below_drew (Below.refl _ _)) _⟩
  ·exact heap_alloc_new w (.cells (Builtin.zeroCells zc n ++ Builtin.zeroCells zc (G - n)) 39 (0, 0))
  ·simp [size_zeroCells, hz9]; omega
theorem rowR {W : World} {A : Option Addr} {n : Nat} {xs : List (SV)} {M : Nat → Prop} (h : Kd.C ks W A n xs) : ReadsRow (fun x cs => cs.length = ks.sz ∧ (∀ u ∈ cs, u.oneCell' = true) ∧ Ever M W (fun W => ks.K W x cs)) ks.sz W A n xs :=
 ⟨h.1, h.2.1, fun hn => by
  obtain ⟨ad, rfl, hc⟩ := h.2.2 hn
  refine ⟨ad, rfl, fun j p hj => ?_⟩
  obtain ⟨cs, h1, h2, h3⟩ := hc j p hj
  exact ⟨cs, h1, ⟨h1, ks.K_one h2, Ever.triv (p := cs = sc p) h2⟩, h3⟩⟩
def Stage (a b : Nat) (s i : Value) : Prop := (i = .int .i64 0 ∧ s = .int .i64 0) ∨ (i = .int .i64 1 ∧ s = .int .i64 a) ∨ (i = .int .i64 2 ∧ s = .int .i64 ((a + b : Nat) : Int))
def StageR (B : Nat) (l1 l2 : List (SV)) (v i : Value) (W : World) : Prop :=
 (i = .int .i64 0 ∧ OwnE ks (fun _ => False) 39 B W v []) ∨ (i = .int .i64 1 ∧ OwnE ks (fun _ => False) 39 B W v l1) ∨ (i = .int .i64 2 ∧ OwnE ks (fun _ => False) 39 B W v (l1 ++ l2))
set_option maxHeartbeats 8000000 in
set_option maxRecDepth 100000 in
theorem concat_c (A1 A2 : Option Addr) (c1 c2 : Nat) (l1 l2 : List (SV)) (n1 n2 : Nat) (e1 : l1.length = n1) (e2 : l2.length = n2) (gb cb : Nat) (w : World) (hgb : w.heap[gb]? = some (.cells #[.slice A1 n1 c1, .slice A2 n2 c2] 34 (0, 0)))
 (hV1 : Kd.C ks w A1 l1.length l1) (hV2 : Kd.C ks w A2 l2.length l2) (hl : n1 + n2 ≤ 1000) :
 Calls Try.prog 33 #[.slice (some ⟨gb, 0, none⟩) 2 cb] w fun e w' => ∃ v, e = .returned v ∧ OwnE ks (fun _ => False) 39 w.heap.size w' v (l1 ++ l2) ∧ Below w.heap.size w w' := by
 have BK := Aside0.mk hgb
 have HV1 := Aside0.mk hV1
 have HV2 := Aside0.mk hV2
 have HLX := Aside0.mk hl
 have E1 := Aside0.mk e1
 have E2 := Aside0.mk e2
 have wa : wrap64 (n1 : Int) = n1 := by unfold wrap64; omega
 have wab : wrap64 ((n1 : Int) + (n2 : Int)) = (n1 : Int) + (n2 : Int) := by unfold wrap64; omega
 have da : decide ((n1 : Int) < 0) = false := decide_eq_false (by omega)
 have dab : decide ((n1 : Int) + (n2 : Int) < 0) = false := decide_eq_false (by omega)
 clear hgb hV1 hV2 e1 e2 hl
 have HB := Aside0.mk (Below.refl w.heap.size w)
 have hcz0 : w.cell? ⟨gb, 0, none⟩ = some (.slice A1 n1 c1) := (blk_cell BK.out 0).trans rfl
 have hcz1 : w.cell? ⟨gb, 1, none⟩ = some (.slice A2 n2 c2) := (blk_cell BK.out 1).trans rfl
 go_enter Try.func33, Try.ntmps33
 go_wp2
 go_loop [3, 11] (fun s i => Stage n1 n2 s i) (fun _ i => 2 - (intOf i).toNat)
 case atStart => exact .inl ⟨rfl, rfl⟩
 case round =>
  rcases hrel with ⟨rfl, rfl⟩ | ⟨rfl, rfl⟩ | ⟨rfl, rfl⟩
  ·go_wp2
   go_round
   case rel => exact .inr (.inl ⟨rfl, by first | rfl | simp [wa]⟩)
   case measure => simp [intOf]
  ·go_wp2
   go_round
   case rel => exact .inr (.inr ⟨rfl, by first | rfl | simp [wab]⟩)
   case measure => simp [intOf]
  ·clear hcz0 hcz1
   obtain ⟨n, hn⟩ : ∃ n : Nat, n = n1 + n2 := ⟨_, rfl⟩
   rw [← hn]
   have HN := Aside0.mk hn
   clear wa wab da dab hn
   go_wp2_with (go_at_call 47; refine (grow_c n _ (by have := HLX.out; have := HN.out; omega)).mono ?_; rintro e w1 ⟨v, rfl, HR, HBc⟩; have HR1 := Aside0.mk HR; clear HR; have HB1 := Aside0.mk HBc; clear HBc)
   have hcz0 : w1.cell? ⟨gb, 0, none⟩ = some (.slice A1 n1 c1) := (blk_cell (HB1.out.block _ (blk_lt BK.out) ▸ BK.out) 0).trans rfl
   have hcz1 : w1.cell? ⟨gb, 1, none⟩ = some (.slice A2 n2 c2) := (blk_cell (HB1.out.block _ (blk_lt BK.out) ▸ BK.out) 1).trans rfl
   have hz1 := HB1.out.size
   go_loopw [6, 27] (fun v i wr => Aside0 (StageR w.heap.size l1 l2 v i wr) ∧ Aside0 (Below w.heap.size w wr)) (fun _ i _ => 2 - (intOf i).toNat)
   case atStart => exact ⟨⟨.inl ⟨rfl, HR1.out⟩⟩, HB1⟩
   case round =>
    obtain ⟨hst, HB2⟩ := hrel
    clear hcz0 hcz1 HR1
    have hcz0 : wr.cell? ⟨gb, 0, none⟩ = some (.slice A1 n1 c1) := (blk_cell (HB2.out.block _ (blk_lt BK.out) ▸ BK.out) 0).trans rfl
    have hcz1 : wr.cell? ⟨gb, 1, none⟩ = some (.slice A2 n2 c2) := (blk_cell (HB2.out.block _ (blk_lt BK.out) ▸ BK.out) 1).trans rfl
    obtain (⟨rfl, HO⟩ | ⟨rfl, HO⟩ | ⟨rfl, HO⟩) := hst.out
    ·have HO1 := Aside0.mk HO
     clear HO hst
     obtain ⟨A6, c6, e6⟩ := HO1.out.slice
     cases e6
     go_wp2_with ((with_reducible refine gate_builtin (b := .append) (xs := #[.tmp 31, .tmp 32]) rfl ?_); (refine ev_append_rows ks (M := fun _ => False) (w0 := w) w.heap.size rfl (.tmp 31) (.tmp 32) 34 39 Z39 88 rfl Try.underlying34 info39 rfl (by decide) (by decide) (.slice A6 0 c6) [] l1 A1 n1 c1 rfl rfl ?d1 ?d2 ?d3 ?d4 ?d5 ?_; (case d1 => exact HO1.out); (case d2 => exact E1.out ▸ rowR (Kd.C_below HV1.out HB2.out)); (case d3 => exact HB2.out); (case d4 => exact HB2.out.size); (case d5 => (have := HLX.out; simp only [List.length_nil]; omega)); intro v3 w3 hown hbel hgrow hat; rw [List.nil_append] at hown; have HO3 := Aside0.mk hown; have HB3 := Aside0.mk hbel; clear hown hbel hgrow hat))
     go_roundw
     case rel => exact ⟨⟨.inr (.inl ⟨rfl, HO3.out⟩)⟩, HB3⟩
     case measure => simp [intOf]
    ·have HO1 := Aside0.mk HO
     clear HO hst
     obtain ⟨A6, c6, e6⟩ := HO1.out.slice
     cases e6
     rw [E1.out]
     go_wp2_with ((with_reducible refine gate_builtin (b := .append) (xs := #[.tmp 31, .tmp 32]) rfl ?_); (refine ev_append_rows ks (M := fun _ => False) (w0 := w) w.heap.size rfl (.tmp 31) (.tmp 32) 34 39 Z39 88 rfl Try.underlying34 info39 rfl (by decide) (by decide) (.slice A6 n1 c6) l1 l2 A2 n2 c2 rfl rfl ?d1 ?d2 ?d3 ?d4 ?d5 ?_; (case d1 => (have h := HO1.out; rw [E1.out] at h; exact h)); (case d2 => exact E2.out ▸ rowR (Kd.C_below HV2.out HB2.out)); (case d3 => exact HB2.out); (case d4 => exact HB2.out.size); (case d5 => (have := HLX.out; have := E1.out; omega)); intro v3 w3 hown hbel hgrow hat; have HO3 := Aside0.mk hown; have HB3 := Aside0.mk hbel; clear hown hbel hgrow hat))
     go_roundw
     case rel => exact ⟨⟨.inr (.inr ⟨rfl, HO3.out⟩)⟩, HB3⟩
     case measure => simp [intOf]
    ·have HO1 := Aside0.mk HO
     clear HO hst
     go_wp2
     go_ret
     exact ⟨_, rfl, HO1.out, HB2.out⟩
end Go.Proofs.Ytlalpooiegganaa.MsgC
end

section
namespace Go.Proofs.Ytlalpooiegganaa.MsgD
open Go.RowKit Go.Proofs.YtlalpooiegganaaW.PrintWords Go.Proofs.YtlalpooiegganaaW.PrintLast Go.Proofs.YtlalpooiegganaaW.PrintMore Go.Proofs.Ytlalpooiegganaa.Core Go.Proofs.Ytlalpooiegganaa.Wk Go.Proofs.Ytlalpooiegganaa.PMasterWaits Go.Proofs.Ytlalpooiegganaa.Msg Go.Proofs.Ytlalpooiegganaa.MsgB Go.Proofs.Ytlalpooiegganaa.MsgC
set_option linter.unusedVariables false
set_option linter.unusedSimpArgs false
section
variable {P : Program} {ops : Array Oper} {rest : List Oper} {o : Oper} {a : Act} {Q : Exit → Act → World → Prop} {Kc : Act → World → Prop} {W : World}
theorem look_step (hw : Region.wanted o (yielded ops a.tmps) = true) {N : Tmp} (hN : o.dst = some N) {t kt et : TypeId} {x y : Operand} {m n : Nat} {f : Int → Option Value} {z : Value} {k : Int} (ho : o.op = .lookup t x y false) (hm : IsMap W m f n) (ht : P.underlying t = some (.map kt et)) (hk : P.underlying kt = some (.int .i64)) (hz : ∀ w, (zeroValue et).run P w = .ok z w)
 (hx : a.eval x = .map (some m)) (hy : a.eval y = .int .i64 k) {v : Value} (hv : (f k).getD z = v) (h : Kc (a.put (some N) v) W) : if Region.wanted o (yielded ops a.tmps) = true then Oper.wp P o a W Kc Q else Kc (a.put (some N) undef) W := by
 subst hv
 refine value_ (w1 := W) hw hN ?_ h
 unfold execOp
 simp [ho, hx, hy, hm.look ht hk hz k, Result.andThen]
theorem upd_step (hw : Region.wanted o (yielded ops a.tmps) = true) {t kt et : TypeId} {x y z : Operand} {m n : Nat} {f : Int → Option Value} {k : Int} {v : Value} (ho : o.op = .mapUpdate t x y z) (hN : o.dst = none) (hm : IsMap W m f n) (ht : P.underlying t = some (.map kt et)) (hk : P.underlying kt = some (.int .i64))
 (hx : a.eval x = .map (some m)) (hy : a.eval y = .int .i64 k) (hz : a.eval z = v) (h : ∀ w1, IsMap w1 m (fun j => if j = k then some v else f j) (n + 1) → Ext (fun b => b = m) W w1 → Kc a w1) : if Region.wanted o (yielded ops a.tmps) = true then Oper.wp P o a W Kc Q else Kc (a.put none undef) W := by
 obtain ⟨W', hrun, h1, h2⟩ := hm.update ht hk k v
 have hr : (execOp a.eval o).run P W = .ok .skip W' := by
  unfold execOp
  simp [ho, hx, hy, hz, hrun, Result.andThen]
 exact skip_ hw hN hr (h W' h1 h2)
end
section
variable {B : Nat} {F : Nat → Prop} {w W W' : World} {v : Value} {l : List Int} {g m n : Nat} {f : Int → Option Value} {cs : Array Value} {T : TypeId}
theorem kd_mv {B : Nat} (h : OwnE kd (fun _ => False) 48 B W v l) (k : Ext F W W') (hf : ∀ k, v.ownBlock = some k → ¬ F k) : OwnE kd (fun _ => False) 48 B W' v l := by
 obtain ⟨i, h1, h2⟩ := h
 exact ⟨i, own_move h1 (fun b hb => k.block b (own_lt h1 b hb) (hf b hb)), h2.imp_ (fun x cs h => Ever.triv (p := cs = dc x) h.now)⟩
theorem kd_ne {B : Nat} (h : OwnE kd (fun _ => False) 48 B W v l) (hb : W.heap[g]? = some (.cells cs T (0, 0))) (hT : T ≠ 48) : ∀ k, v.ownBlock = some k → k ≠ g := by
 intro k hk e
 obtain ⟨i, h1, _⟩ := h
 obtain ⟨cells, hc⟩ := own_typed h1 k hk
 rw [e, hb] at hc
 injection hc with hc
 injection hc with _ hc _
 exact hT hc
theorem kd_nm {B : Nat} (h : OwnE kd (fun _ => False) 48 B W v l) (hm : IsMap W m f n) : ∀ k, v.ownBlock = some k → k ≠ m := by
 intro k hk e
 obtain ⟨i, h1, _⟩ := h
 obtain ⟨cells, hc⟩ := own_typed h1 k hk
 obtain ⟨es, c, hb, _⟩ := hm.out
 rw [e, hb] at hc
 injection hc with hc
 cases hc
def SentR (W : World) (v : Value) : Option (SV) → Prop
 | none => v = .slice none 0 0
 | some x => ∃ ga c, v = .slice (some ⟨ga, 0, none⟩) 1 c ∧ W.heap[ga]? = some (.cells (sc x).toArray 39 (0, 0))
def DoneR (W : World) (v : Value) : Option Int → Prop
 | none => v = .slice none 0 0
 | some t => ∃ gd c, v = .slice (some ⟨gd, 0, none⟩) 1 c ∧ ∀ i u, (dc t)[i]? = some u → W.cell? ⟨gd, i, none⟩ = some u
theorem sent_mk {x : SV} {ga c : Nat} (h : W.heap[ga]? = some (.cells (sc x).toArray 39 (0, 0))) : SentR W (.slice (some ⟨ga, 0, none⟩) 1 c) (some x) := ⟨ga, c, rfl, h⟩
theorem done_mk {B : Nat} {t : Int} (h : OwnE kd (fun _ => False) 48 B W v [t]) : DoneR W v (some t) := by
 obtain ⟨i, h1, h2⟩ := h
 obtain ⟨g, cap, rfl, _, _⟩ := h1.form (by simp)
 refine ⟨g, cap, rfl, fun j u hu => ?_⟩
 have he : i = dc t := by
  have h3 := h2.2 0 t rfl
  have h4 := h2.1
  have h5 : ((i.drop (0 * kd.sz)).take kd.sz) = dc t := h3.now
  rw [Nat.zero_mul, List.drop_zero, List.take_of_length_le (by rw [h4]; simp)] at h5
  exact h5
 have := h1.cells rfl j u (by rw [he]; exact hu)
 rw [show (⟨g, 0, none⟩ : Addr).add j = ⟨g, j, none⟩ from by simp [Addr.add] <;> omega] at this
 exact this
theorem belowT {B : Nat} {w w1 w2 : World} (h : Below B w w1) (k : Below B w1 w2) : Below B w w2 := ⟨k.os.trans h.os, k.tape.trans h.tape, k.output.trans h.output, Nat.le_trans h.size k.size, fun i hi => (k.block i hi).trans (h.block i hi)⟩
theorem IsM.outS {s : MS} (h : IsM B W g m s) : g < W.heap.size := by obtain ⟨vl, vo, h1, _⟩ := h.out; exact blk_lt h1
end
end Go.Proofs.Ytlalpooiegganaa.MsgD
end

section
namespace Go.Proofs.Ytlalpooiegganaa.MsgE
open Go.RowKit Go.Proofs.YtlalpooiegganaaW.PrintWords Go.Proofs.YtlalpooiegganaaW.PrintLast Go.Proofs.YtlalpooiegganaaW.PrintMore Go.Proofs.Ytlalpooiegganaa.Core Go.Proofs.Ytlalpooiegganaa.Wk Go.Proofs.Ytlalpooiegganaa.PMasterWaits Go.Proofs.Ytlalpooiegganaa.Msg Go.Proofs.Ytlalpooiegganaa.MsgB Go.Proofs.Ytlalpooiegganaa.MsgC Go.Proofs.Ytlalpooiegganaa.MsgD
set_option linter.unusedVariables false
set_option linter.unusedSimpArgs false
def StepS (B : Nat) (w w' : World) (g m : Nat) (x : SV) (vs : List Int) (d : Option Int) (s : MS) (va vd : Value) : Prop := ∃ A' k', SentR w' va (some ⟨x.t, x.u, x.f, x.a, x.c, A', x.l, k', x.o, x.n, x.r⟩) ∧ DoneR w' vd d ∧ x.l ≤ k' ∧ IRow w' A' x.l vs ∧ IsM B w' g m s ∧ Ext (Gm g m) w w' ∧ Keeps w w'
def StepN (B : Nat) (w w' : World) (g m : Nat) (d : Option Int) (s : MS) (va vd : Value) : Prop := SentR w' va none ∧ DoneR w' vd d ∧ IsM B w' g m s ∧ Ext (Gm g m) w w' ∧ Keeps w w'
theorem row_n {W : World} {B : Nat} {v : Value} {l : List SV} (h : OwnE ks (fun _ => False) 39 B W v l) : ∃ A n c, v = .slice A n c ∧ l.length = n ∧ n ≤ c := by
 obtain ⟨i, h1, h2⟩ := h
 have hcap := h1
 obtain ⟨A, c, e⟩ := own_slice h1
 subst e
 exact ⟨A, _, c, rfl, rfl, own_cap hcap⟩
def At (W : World) (a : Addr) (z : SV) : Prop := W.cell? a = some (.int .i64 z.t) ∧ W.cell? ⟨a.block, a.off + 1, none⟩ = some (.int .i64 z.u) ∧ W.cell? ⟨a.block, a.off + 2, none⟩ = some (.int .i64 z.f) ∧ W.cell? ⟨a.block, a.off + 3, none⟩ = some (.int .i64 z.a) ∧ W.cell? ⟨a.block, a.off + 4, none⟩ = some (.int .i64 z.c) ∧ W.cell? ⟨a.block, a.off + 5, none⟩ = some (.slice z.A z.l z.k) ∧ W.cell? ⟨a.block, a.off + 6, none⟩ = some (.int .i64 z.o) ∧ W.cell? ⟨a.block, a.off + 7, none⟩ = some (.int .i64 z.n) ∧ W.cell? ⟨a.block, a.off + 8, none⟩ = some (.int .i64 z.r)
theorem row_i {W : World} {B n c : Nat} {A : Option Addr} {l : List SV} (h : OwnE ks (fun _ => False) 39 B W (.slice A n c) l) {i : Nat} {z : SV} (hz : l[i]? = some z) : ∃ ad, A = some ad ∧ At W (ad.add (i * 9)) z := by
 obtain ⟨A', c', e, hcc, hv⟩ := h.view (fun _ _ e => e)
 have e1 : A = A' := by injection e
 subst e1
 have hi : i < l.length := (List.getElem?_eq_some_iff.1 hz).1
 obtain ⟨ad, rfl, hc⟩ := hv.now.2.2 (by omega)
 obtain ⟨cs, h1, h2, h3⟩ := hc i z hz
 have h2' : cs = sc z := h2
 subst h2'
 have hj : ∀ j u, (sc z)[j]? = some u → W.cell? (ad.add (i * 9 + j)) = some u := h3
 refine ⟨ad, rfl, ?_⟩
 unfold At
 exact ⟨hj 0 _ rfl, by rw [← add_field _ _ 1 (by omega)]; exact hj 1 _ rfl, by rw [← add_field _ _ 2 (by omega)]; exact hj 2 _ rfl, by rw [← add_field _ _ 3 (by omega)]; exact hj 3 _ rfl, by rw [← add_field _ _ 4 (by omega)]; exact hj 4 _ rfl, by rw [← add_field _ _ 5 (by omega)]; exact hj 5 _ rfl, by rw [← add_field _ _ 6 (by omega)]; exact hj 6 _ rfl, by rw [← add_field _ _ 7 (by omega)]; exact hj 7 _ rfl, by rw [← add_field _ _ 8 (by omega)]; exact hj 8 _ rfl⟩
theorem get_pre {pre l2 : List SV} {i : Nat} (h : i < pre.length) : ∃ z, z ∈ pre ∧ (pre ++ l2)[i]? = some z := by
 refine ⟨pre[i], List.getElem_mem h, ?_⟩
 rw [List.getElem?_append_left h, List.getElem?_eq_getElem h]
theorem get_in {l : List SV} {i : Nat} (h : i < l.length) : ∃ z, z ∈ l ∧ l[i]? = some z := ⟨l[i], List.getElem_mem h, List.getElem?_eq_getElem h⟩
theorem get_mid {pre post : List SV} {y : SV} {i : Nat} (h : pre.length = i) : (pre ++ y :: post)[i]? = some y := by subst h; simp
theorem row_cuts {W : World} {B n c i m : Nat} {ad : Addr} {pre post : List SV} {y : SV} (h : OwnE ks (fun _ => False) 39 B W (.slice (some ad) n c) (pre ++ y :: post)) (hi : pre.length = i) (hm : post.length = m) (hc : n ≤ c) (hn : (pre ++ y :: post).length = n) :
 Kd.C ks W (some ad) pre.length pre ∧ Kd.C ks W (if c = i + 1 then some ad else (some ad : Option Addr).map (·.add ((i + 1) * 9))) post.length post := by
 obtain ⟨A', c', e, hcc, hv⟩ := h.view (fun _ _ e => e)
 have e1 : some ad = A' := by injection e
 subst e1
 constructor
 ·have h1 := Kd.C_take (m := pre.length) hv.now (by simp)
  rwa [List.take_left] at h1
 ·have h1 := Kd.C_drop (m := i + 1) (c := c) hv.now (by simp; omega) (by omega)
  have h2 : (pre ++ y :: post).drop (i + 1) = post := by subst hi; rw [List.drop_append]; simp
  rw [h2] at h1
  exact h1
theorem meas {n N : Nat} (h2 : n < N) : N + 1 - (intOf (.int .i64 ((n : Int) + 1))).toNat < N + 1 - (intOf (.int .i64 (n : Int))).toNat := by
 show N + 1 - ((n : Int) + 1).toNat < N + 1 - ((n : Int)).toNat
 omega
theorem measw {n N : Nat} (h : wrap64 ((n : Int) + 1) = (n : Int) + 1) (h2 : n < N) : N + 1 - (intOf (.int .i64 (wrap64 ((n : Int) + 1)))).toNat < N + 1 - (intOf (.int .i64 (n : Int))).toNat := by rw [h]; exact meas h2
theorem ks_low {W : World} {B b : Nat} {v : Value} {l : List (SV)} (h : OwnE ks (fun _ => False) 39 b W v l) (hB : B ≤ b) : OwnE ks (fun _ => False) 39 B W v l := by
 obtain ⟨i, h1, h2⟩ := h
 exact ⟨i, own_lw h1 hB, h2⟩
theorem slice_to (ad : Addr) (c n i : Nat) (hi : i ≤ n) (hc : n ≤ c) : ∀ W : World, (Instr.slice 34 (.slice (some ad) n c) none (some (.int .i64 (i : Int))) none).run Try.prog W = .ok (.slice (some ad) i c) W := by
 obtain ⟨i0, hi0, hz0, hz1, hz2⟩ := info_parts info39
 intro W
 have h := cut_to (P := Try.prog) 34 39 .i64 Try.underlying34 hi0 (some ad) n c i (by omega) (by omega) hc W
 simpa using h
theorem slice_from (ad : Addr) (c n i m : Nat) (ip : Int) (hip : ip = (i : Int) + 1) (hm : n = i + 1 + m) : ∀ W : World, (Instr.slice 34 (.slice (some ad) n c) (some (.int .i64 ip)) none none).run Try.prog W = .ok (.slice (if c = i + 1 then some ad else (some ad : Option Addr).map (·.add ((i + 1) * 9))) m (c - (i + 1))) W := by
 obtain ⟨i0, hi0, hz0, hz1, hz2⟩ := info_parts info39
 intro W
 have h := cut_from (P := Try.prog) 34 39 .i64 Try.underlying34 hi0 9 hz1 (some ad) n c ip (by omega) (by omega) W
 rw [h]
 have e : ip.toNat = i + 1 := by omega
 rw [e, show n - (i + 1) = m by omega]
theorem upd_hf {f : Int → Option Value} {rest : Int → Int} (h : ∀ k, (f k).getD (.int .i64 0) = .int .i64 (rest k)) (u x : Int) : ∀ k, ((fun j => if j = u then some (Value.int .i64 x) else f j) k).getD (.int .i64 0) = .int .i64 ((fun k => if k = u then x else rest k) k) := by
 intro k
 by_cases e : k = u
 ·simp only [if_pos e, Option.getD_some]
 ·simp only [if_neg e]; exact h k
set_option maxHeartbeats 4000000 in
set_option maxRecDepth 100000 in
theorem step_wait {B : Nat} {w : World} {g m : Nat} {wait again pause now tk times last : Int} {rest : Int → Int} {line : List (SV)} {x : SV} (h : IsM B w g m ⟨wait, again, pause, now, tk, line, some x, times, last, rest⟩) (hB : B ≤ w.heap.size) (t : Int) (h0 : 0 ≤ t) (h1 : now ≤ t) (hq : wrap64 (t - last) < wait) : Calls Try.prog 12 #[.pointer (some ⟨g, 0, none⟩), .int .i64 t] w fun e w' => ∃ va vd, e = .returned (.tuple #[va, vd, .int .i64 0]) ∧ StepN B w w' g m none ⟨wait, again, pause, t, tk, line, some x, times, last, rest⟩ va vd := by
 have H := Aside0.mk h; have HB := Aside0.mk hB; have T0 := Aside0.mk h0; have T1 := Aside0.mk h1
 have q5 : decide (wait ≤ wrap64 (t - last)) = false := decide_eq_false (by omega)
 clear h hB h0 h1 hq
 have hu39 := Try.underlying39; have hu48 := Try.underlying48
 go_enter Try.func12, Try.ntmps12
 go_wp2_with (fail)
 go_step3
 go_upto_region 5 with (go_at_call 31; refine (goon_f H.out HB.out t T0.out T1.out).mono ?_; rintro e w1 ⟨rfl, HI, HXg, HKg⟩; have HI := Aside0.mk HI; have HBB : Aside0 (Ext (Gm g m) w w1) := ⟨extg HXg⟩; have HKG := Aside0.mk HKg; clear HXg HKg)
 clear H
 have HBW : Aside0 (B ≤ w1.heap.size) := ⟨Nat.le_trans HB.out HBB.out.size⟩
 obtain ⟨⟨vl, vo, hb, hl, ho⟩, ⟨f, n, hm, hf⟩⟩ := HI.out
 clear HI
 obtain ⟨go, rfl, hgo, bgo, nlo⟩ := ho
 have BK_g : Aside0 (w1.heap[g]? = some (.cells #[.int .i64 wait, .int .i64 again, .int .i64 pause, .int .i64 t, .int .i64 tk, vl, .pointer (some ⟨go, 0, none⟩), .int .i64 times, .int .i64 last, .map (some m)] 73 (0, 0))) := ⟨hb⟩
 have OB_l : Aside0 (OwnE ks (fun _ => False) 39 B w1 vl (line)) := ⟨hl⟩
 have MP_m := Aside0.mk hm; have HF := Aside0.mk hf
 have NE_l_g : Aside0 (∀ k, (vl).ownBlock = some k → k ≠ g) := ⟨ks_ne hl hb (by decide)⟩; have NE_l_m : Aside0 (∀ k, (vl).ownBlock = some k → k ≠ m) := ⟨ks_nm hl hm⟩; have NE_g_m : Aside0 (g ≠ m) := ⟨cell_nm hb hm⟩; have NE_m_g : Aside0 (m ≠ g) := ⟨fun e => NE_g_m.out e.symm⟩; have F_g : Aside0 (∀ k, k = g → Gm g m k ∨ w1.heap.size ≤ k) := ⟨fun k e => .inl (.inl e)⟩; have F_m : Aside0 (∀ k, k = m → Gm g m k ∨ w1.heap.size ≤ k) := ⟨fun k e => .inl (.inr e)⟩
 have BK_go : Aside0 (w1.heap[go]? = some (.cells #[.int .i64 x.t, .int .i64 x.u, .int .i64 x.f, .int .i64 x.a, .int .i64 x.c, .slice x.A x.l x.k, .int .i64 x.o, .int .i64 x.n, .int .i64 x.r] 39 (0, 0))) := ⟨hgo⟩; have BGO := Aside0.mk bgo; have NE_l_go : Aside0 (∀ k, (vl).ownBlock = some k → k ≠ go) := ⟨nlo⟩; have NE_go_g : Aside0 (go ≠ g) := ⟨blk_ne hgo hb (by decide)⟩; have NE_g_go : Aside0 (g ≠ go) := ⟨fun e => NE_go_g.out e.symm⟩; have NE_go_m : Aside0 (go ≠ m) := ⟨cell_nm hgo hm⟩; have NE_m_go : Aside0 (m ≠ go) := ⟨fun e => NE_go_m.out e.symm⟩; clear hgo bgo nlo
 clear hb hl hm hf
 have XT : Aside0 (Ext (Gm g m) w1 w1) := ⟨Ext.refl _ _⟩
 refine cl10_ BK_g.out ?_; intro lc1_0 lc1_1 lc1_2 lc1_3 lc1_4 lc1_5 lc1_6 lc1_7 lc1_8 lc1_9 lf1_0 lf1_1 lf1_2 lf1_3 lf1_4 lf1_5 lf1_6 lf1_7 lf1_8 lf1_9
 refine cl9_ BK_go.out ?_; intro lc2_0 lc2_1 lc2_2 lc2_3 lc2_4 lc2_5 lc2_6 lc2_7 lc2_8 lf2_0 lf2_1 lf2_2 lf2_3 lf2_4 lf2_5 lf2_6 lf2_7 lf2_8
 have KP : Aside0 (Keeps w1 w1) := ⟨fun _ _ _ h _ _ => h⟩
 clear lc1_0 lc1_1 lc1_2 lc1_3 lc1_4 lc1_5 lc1_6 lc1_7 lc1_8 lc1_9 lf1_0 lf1_1 lf1_2 lf1_3 lf1_4 lf1_5 lf1_6 lf1_7 lf1_8 lf1_9 lc2_0 lc2_1 lc2_2 lc2_3 lc2_4 lc2_5 lc2_6 lc2_7 lc2_8 lf2_0 lf2_1 lf2_2 lf2_3 lf2_4 lf2_5 lf2_6 lf2_7 lf2_8
 refine start_ (n := 18) (S := fun W => W.cell? ⟨g, 6, none⟩ = some (.pointer (some ⟨go, 0, none⟩)) ∧ W.cell? ⟨g, 8, none⟩ = some (.int .i64 last) ∧ W.cell? ⟨g, 0, none⟩ = some (.int .i64 wait)) (ds := []) (fl 18 0) (by kernel_rfl) rfl (by kernel_rfl) ?_ (fun hHeld => ?_)
 ·exact ⟨(blk_cell (bk_ BK_g) 6).trans rfl, (blk_cell (bk_ BK_g) 8).trans rfl, (blk_cell (bk_ BK_g) 0).trans rfl⟩
 refine pu_ 0 17 (fl 18 1) rfl rfl (by kernel_rfl) ?_
 refine pu_ 1 18 (fl 18 3) rfl rfl (by kernel_rfl) ?_
 refine pu_ 2 19 (fl 18 7) rfl rfl (by kernel_rfl) ?_
 refine tk_ 3 20 (fl 18 15) rfl rfl (by kernel_rfl) hHeld ?_
 refine pu_ 4 21 (fl 18 31) rfl rfl (by kernel_rfl) ?_
 refine pu_ 5 22 (fl 18 63) rfl rfl (by kernel_rfl) ?_
 refine pu_ 6 23 (fl 18 127) rfl rfl (by kernel_rfl) ?_
 refine pu_ 7 24 (fl 18 255) rfl rfl (by kernel_rfl) ?_
 refine pu_ 8 25 (fl 18 511) rfl rfl (by kernel_rfl) ?_
 refine pu_ 9 26 (fl 18 1023) rfl rfl (by kernel_rfl) ?_
 refine tk_ 10 27 (fl 18 2047) rfl rfl (by kernel_rfl) hHeld ?_
 refine pu_ 11 28 (fl 18 4095) rfl rfl (by kernel_rfl) ?_
 refine pu_ 12 29 (fl 18 8191) rfl rfl (by kernel_rfl) ?_
 refine pu_ 13 30 (fl 18 16383) rfl rfl (by kernel_rfl) ?_
 refine pu_ 14 31 (fl 18 32767) rfl rfl (by kernel_rfl) ?_
 refine tk_ 15 32 (fl 18 65535) rfl rfl (by kernel_rfl) hHeld ?_
 refine pu_ 16 33 (fl 18 131071) rfl rfl (by kernel_rfl) ?_
 refine pu_ 17 34 (fl 18 262143) rfl rfl (by kernel_rfl) ?_
 refine done_ (by kernel_rfl) ?_
 generalize hwd : World.drew w1 = w2
 have HBc : Below w1.heap.size w1 w2 := (by rw [← hwd]; exact below_drew (Below.refl _ _))
 clear hwd
 replace OB_l := Aside0.mk (ks_mv OB_l.out (Ext.none_ HBc) (fun _ _ e => e))
 replace KP := Aside0.mk (keeps_then KP.out HBc)
 replace BK_g := Aside0.mk (Ext.blk (Ext.none_ HBc) BK_g.out (fun e => e))
 replace BK_go := Aside0.mk (Ext.blk (Ext.none_ HBc) BK_go.out (fun e => e))
 replace MP_m := Aside0.mk (IsMap.ext MP_m.out (Ext.none_ HBc) (fun e => e))
 replace XT := Aside0.mk (XT.out.stepB HBc)
 clear HBc
 refine cl10_ BK_g.out ?_; intro lc3_0 lc3_1 lc3_2 lc3_3 lc3_4 lc3_5 lc3_6 lc3_7 lc3_8 lc3_9 lf3_0 lf3_1 lf3_2 lf3_3 lf3_4 lf3_5 lf3_6 lf3_7 lf3_8 lf3_9
 refine cl9_ BK_go.out ?_; intro lc4_0 lc4_1 lc4_2 lc4_3 lc4_4 lc4_5 lc4_6 lc4_7 lc4_8 lf4_0 lf4_1 lf4_2 lf4_3 lf4_4 lf4_5 lf4_6 lf4_7 lf4_8
 go_wp2
 try rw [Exit.noGoto_ret]
 go_ret3
 exact ⟨_, _, rfl, rfl, rfl, ⟨⟨_, _, BK_g.out, OB_l.out, ⟨go, rfl, BK_go.out, BGO.out, NE_l_go.out⟩⟩, ⟨_, _, MP_m.out, HF.out⟩⟩, HBB.out.trans XT.out, HKG.out.trans KP.out⟩
set_option maxHeartbeats 4000000 in
set_option maxRecDepth 100000 in
theorem step_again {B : Nat} {w : World} {g m : Nat} {wait again pause now tk times last : Int} {rest : Int → Int} {line : List (SV)} {x : SV} (h : IsM B w g m ⟨wait, again, pause, now, tk, line, some x, times, last, rest⟩) (hB : B ≤ w.heap.size) (t : Int) (h0 : 0 ≤ t) (h1 : now ≤ t) (hq : wait ≤ wrap64 (t - last)) (hr : times ≤ again) {vs : List Int} (hV : IRow w x.A x.l vs) (hvl : x.l ≤ 100000) : Calls Try.prog 12 #[.pointer (some ⟨g, 0, none⟩), .int .i64 t] w fun e w' => ∃ va vd, e = .returned (.tuple #[va, vd, .int .i64 0]) ∧ StepS B w w' g m x vs none ⟨wait, again, pause, t, tk, line, some x, wrap64 (times + 1), t, rest⟩ va vd := by
 have H := Aside0.mk h; have HB := Aside0.mk hB; have T0 := Aside0.mk h0; have T1 := Aside0.mk h1
 have HV := Aside0.mk hV; have HVL := Aside0.mk hvl; clear hV hvl
 have q5 : decide (wait ≤ wrap64 (t - last)) = true := decide_eq_true hq
 have q6 : decide (times ≤ again) = true := decide_eq_true hr
 clear h hB h0 h1 hq hr
 have hu39 := Try.underlying39; have hu48 := Try.underlying48
 go_enter Try.func12, Try.ntmps12
 go_wp2_with (fail)
 go_step3
 go_upto_region 5 with (go_at_call 31; refine (goon_f H.out HB.out t T0.out T1.out).mono ?_; rintro e w1 ⟨rfl, HI, HXg, HKg⟩; have HI := Aside0.mk HI; have HBB : Aside0 (Ext (Gm g m) w w1) := ⟨extg HXg⟩; have HKG := Aside0.mk HKg; clear HXg HKg)
 clear H
 have HBW : Aside0 (B ≤ w1.heap.size) := ⟨Nat.le_trans HB.out HBB.out.size⟩
 obtain ⟨⟨vl, vo, hb, hl, ho⟩, ⟨f, n, hm, hf⟩⟩ := HI.out
 clear HI
 obtain ⟨go, rfl, hgo, bgo, nlo⟩ := ho
 have BK_g : Aside0 (w1.heap[g]? = some (.cells #[.int .i64 wait, .int .i64 again, .int .i64 pause, .int .i64 t, .int .i64 tk, vl, .pointer (some ⟨go, 0, none⟩), .int .i64 times, .int .i64 last, .map (some m)] 73 (0, 0))) := ⟨hb⟩
 have OB_l : Aside0 (OwnE ks (fun _ => False) 39 B w1 vl (line)) := ⟨hl⟩
 have MP_m := Aside0.mk hm; have HF := Aside0.mk hf
 have NE_l_g : Aside0 (∀ k, (vl).ownBlock = some k → k ≠ g) := ⟨ks_ne hl hb (by decide)⟩; have NE_l_m : Aside0 (∀ k, (vl).ownBlock = some k → k ≠ m) := ⟨ks_nm hl hm⟩; have NE_g_m : Aside0 (g ≠ m) := ⟨cell_nm hb hm⟩; have NE_m_g : Aside0 (m ≠ g) := ⟨fun e => NE_g_m.out e.symm⟩; have F_g : Aside0 (∀ k, k = g → Gm g m k ∨ w1.heap.size ≤ k) := ⟨fun k e => .inl (.inl e)⟩; have F_m : Aside0 (∀ k, k = m → Gm g m k ∨ w1.heap.size ≤ k) := ⟨fun k e => .inl (.inr e)⟩
 have BK_go : Aside0 (w1.heap[go]? = some (.cells #[.int .i64 x.t, .int .i64 x.u, .int .i64 x.f, .int .i64 x.a, .int .i64 x.c, .slice x.A x.l x.k, .int .i64 x.o, .int .i64 x.n, .int .i64 x.r] 39 (0, 0))) := ⟨hgo⟩; have BGO := Aside0.mk bgo; have NE_l_go : Aside0 (∀ k, (vl).ownBlock = some k → k ≠ go) := ⟨nlo⟩; have NE_go_g : Aside0 (go ≠ g) := ⟨blk_ne hgo hb (by decide)⟩; have NE_g_go : Aside0 (g ≠ go) := ⟨fun e => NE_go_g.out e.symm⟩; have NE_go_m : Aside0 (go ≠ m) := ⟨cell_nm hgo hm⟩; have NE_m_go : Aside0 (m ≠ go) := ⟨fun e => NE_go_m.out e.symm⟩; clear hgo bgo nlo
 clear hb hl hm hf
 have XT : Aside0 (Ext (Gm g m) w1 w1) := ⟨Ext.refl _ _⟩
 refine cl10_ BK_g.out ?_; intro lc1_0 lc1_1 lc1_2 lc1_3 lc1_4 lc1_5 lc1_6 lc1_7 lc1_8 lc1_9 lf1_0 lf1_1 lf1_2 lf1_3 lf1_4 lf1_5 lf1_6 lf1_7 lf1_8 lf1_9
 refine cl9_ BK_go.out ?_; intro lc2_0 lc2_1 lc2_2 lc2_3 lc2_4 lc2_5 lc2_6 lc2_7 lc2_8 lf2_0 lf2_1 lf2_2 lf2_3 lf2_4 lf2_5 lf2_6 lf2_7 lf2_8
 have KP : Aside0 (Keeps w1 w1) := ⟨fun _ _ _ h _ _ => h⟩
 have HV1 : Aside0 (IRow w1 x.A x.l vs) := ⟨HKG.out.row HV.out⟩
 clear lc1_0 lc1_1 lc1_2 lc1_3 lc1_4 lc1_5 lc1_6 lc1_7 lc1_8 lc1_9 lf1_0 lf1_1 lf1_2 lf1_3 lf1_4 lf1_5 lf1_6 lf1_7 lf1_8 lf1_9 lc2_0 lc2_1 lc2_2 lc2_3 lc2_4 lc2_5 lc2_6 lc2_7 lc2_8 lf2_0 lf2_1 lf2_2 lf2_3 lf2_4 lf2_5 lf2_6 lf2_7 lf2_8
 refine start_ (n := 18) (S := fun W => W.cell? ⟨g, 6, none⟩ = some (.pointer (some ⟨go, 0, none⟩)) ∧ W.cell? ⟨g, 8, none⟩ = some (.int .i64 last) ∧ W.cell? ⟨g, 0, none⟩ = some (.int .i64 wait)) (ds := []) (fl 18 0) (by kernel_rfl) rfl (by kernel_rfl) ?_ (fun hHeld => ?_)
 ·exact ⟨(blk_cell (bk_ BK_g) 6).trans rfl, (blk_cell (bk_ BK_g) 8).trans rfl, (blk_cell (bk_ BK_g) 0).trans rfl⟩
 refine pu_ 0 17 (fl 18 1) rfl rfl (by kernel_rfl) ?_
 refine pu_ 1 18 (fl 18 3) rfl rfl (by kernel_rfl) ?_
 refine pu_ 2 19 (fl 18 7) rfl rfl (by kernel_rfl) ?_
 refine tk_ 3 20 (fl 18 15) rfl rfl (by kernel_rfl) hHeld ?_
 refine pu_ 4 21 (fl 18 31) rfl rfl (by kernel_rfl) ?_
 refine pu_ 5 22 (fl 18 63) rfl rfl (by kernel_rfl) ?_
 refine pu_ 6 23 (fl 18 127) rfl rfl (by kernel_rfl) ?_
 refine pu_ 7 24 (fl 18 255) rfl rfl (by kernel_rfl) ?_
 refine pu_ 8 25 (fl 18 511) rfl rfl (by kernel_rfl) ?_
 refine pu_ 9 26 (fl 18 1023) rfl rfl (by kernel_rfl) ?_
 refine tk_ 10 27 (fl 18 2047) rfl rfl (by kernel_rfl) hHeld ?_
 refine pu_ 11 28 (fl 18 4095) rfl rfl (by kernel_rfl) ?_
 refine pu_ 12 29 (fl 18 8191) rfl rfl (by kernel_rfl) ?_
 refine pu_ 13 30 (fl 18 16383) rfl rfl (by kernel_rfl) ?_
 refine pu_ 14 31 (fl 18 32767) rfl rfl (by kernel_rfl) ?_
 refine tk_ 15 32 (fl 18 65535) rfl rfl (by kernel_rfl) hHeld ?_
 refine pu_ 16 33 (fl 18 131071) rfl rfl (by kernel_rfl) ?_
 refine pu_ 17 34 (fl 18 262143) rfl rfl (by kernel_rfl) ?_
 refine done_ (by kernel_rfl) ?_
 generalize hwd : World.drew w1 = w2
 have HBc : Below w1.heap.size w1 w2 := (by rw [← hwd]; exact below_drew (Below.refl _ _))
 clear hwd
 replace OB_l := Aside0.mk (ks_mv OB_l.out (Ext.none_ HBc) (fun _ _ e => e))
 replace KP := Aside0.mk (keeps_then KP.out HBc)
 replace BK_g := Aside0.mk (Ext.blk (Ext.none_ HBc) BK_g.out (fun e => e))
 replace BK_go := Aside0.mk (Ext.blk (Ext.none_ HBc) BK_go.out (fun e => e))
 replace MP_m := Aside0.mk (IsMap.ext MP_m.out (Ext.none_ HBc) (fun e => e))
 replace XT := Aside0.mk (XT.out.stepB HBc)
 clear HBc
 refine cl10_ BK_g.out ?_; intro lc3_0 lc3_1 lc3_2 lc3_3 lc3_4 lc3_5 lc3_6 lc3_7 lc3_8 lc3_9 lf3_0 lf3_1 lf3_2 lf3_3 lf3_4 lf3_5 lf3_6 lf3_7 lf3_8 lf3_9
 refine cl9_ BK_go.out ?_; intro lc4_0 lc4_1 lc4_2 lc4_3 lc4_4 lc4_5 lc4_6 lc4_7 lc4_8 lf4_0 lf4_1 lf4_2 lf4_3 lf4_4 lf4_5 lf4_6 lf4_7 lf4_8
 go_upto_region 6 with (fail)
 clear lc3_0 lc3_1 lc3_2 lc3_3 lc3_4 lc3_5 lc3_6 lc3_7 lc3_8 lc3_9 lf3_0 lf3_1 lf3_2 lf3_3 lf3_4 lf3_5 lf3_6 lf3_7 lf3_8 lf3_9 lc4_0 lc4_1 lc4_2 lc4_3 lc4_4 lc4_5 lc4_6 lc4_7 lc4_8 lf4_0 lf4_1 lf4_2 lf4_3 lf4_4 lf4_5 lf4_6 lf4_7 lf4_8
 refine start_ (n := 9) (S := fun W => W.cell? ⟨g, 7, none⟩ = some (.int .i64 times) ∧ W.cell? ⟨g, 1, none⟩ = some (.int .i64 again)) (ds := []) (fl 9 0) (by kernel_rfl) rfl (by kernel_rfl) ?_ (fun hHeld => ?_)
 ·exact ⟨(blk_cell (bk_ BK_g) 7).trans rfl, (blk_cell (bk_ BK_g) 1).trans rfl⟩
 refine pu_ 0 35 (fl 9 1) rfl rfl (by kernel_rfl) ?_
 refine pu_ 1 36 (fl 9 3) rfl rfl (by kernel_rfl) ?_
 refine pu_ 2 37 (fl 9 7) rfl rfl (by kernel_rfl) ?_
 refine tk_ 3 38 (fl 9 15) rfl rfl (by kernel_rfl) hHeld ?_
 refine pu_ 4 39 (fl 9 31) rfl rfl (by kernel_rfl) ?_
 refine pu_ 5 40 (fl 9 63) rfl rfl (by kernel_rfl) ?_
 refine pu_ 6 41 (fl 9 127) rfl rfl (by kernel_rfl) ?_
 refine tk_ 7 42 (fl 9 255) rfl rfl (by kernel_rfl) hHeld ?_
 refine pu_ 8 43 (fl 9 511) rfl rfl (by kernel_rfl) ?_
 refine done_ (by kernel_rfl) ?_
 generalize hwd : World.drew w2 = w3
 have HBc : Below w2.heap.size w2 w3 := (by rw [← hwd]; exact below_drew (Below.refl _ _))
 clear hwd
 replace OB_l := Aside0.mk (ks_mv OB_l.out (Ext.none_ HBc) (fun _ _ e => e))
 replace KP := Aside0.mk (keeps_then KP.out HBc)
 replace BK_g := Aside0.mk (Ext.blk (Ext.none_ HBc) BK_g.out (fun e => e))
 replace BK_go := Aside0.mk (Ext.blk (Ext.none_ HBc) BK_go.out (fun e => e))
 replace MP_m := Aside0.mk (IsMap.ext MP_m.out (Ext.none_ HBc) (fun e => e))
 replace XT := Aside0.mk (XT.out.stepB HBc)
 clear HBc
 have HIa : Aside0 (IsM B w3 g m ⟨wait, again, pause, t, tk, line, some x, times, last, rest⟩) := ⟨⟨⟨_, _, BK_g.out, OB_l.out, ⟨go, rfl, BK_go.out, BGO.out, NE_l_go.out⟩⟩, ⟨_, _, MP_m.out, HF.out⟩⟩⟩
 have HBC : Aside0 (B ≤ w3.heap.size) := ⟨Nat.le_trans HBW.out XT.out.size⟩
 go_wp2_with (first | (go_at_call 32; refine (send_f HIa.out HBC.out (KP.out.row HV1.out) HVL.out).mono ?_; rintro e w4 ⟨A', k', rfl, hkc, hin, HI2, HX, HK⟩; have HKC := Aside0.mk hkc; clear hkc; have HI2 := Aside0.mk HI2; have HX := Aside0.mk HX; have HK := Aside0.mk HK; have HIN := Aside0.mk hin; clear hin) | ((with_reducible refine gate_dst (N := 46) rfl ?_); refine bs_ev (N := 46) ?hg ?hd (cs := #[.int .i64 x.t, .int .i64 x.u, .int .i64 x.f, .int .i64 x.a, .int .i64 x.c, .slice A' x.l k', .int .i64 x.o, .int .i64 x.n, .int .i64 x.r]) (t := 39) (n := 1) ?hr ?_; (case hd => rfl); (case hg => rfl); (case hr => first | (go_simp; done) | (go_simp; rfl)); intro ga hg w5 hbox HBc; have HBOX := Aside0.mk hbox; have HBE := Aside0.mk HBc; clear hbox HBc hg))
 try rw [Exit.noGoto_ret]
 go_ret3
 exact ⟨_, _, rfl, A', k', sent_mk HBOX.out, rfl, HKC.out, irow_below HIN.out HBE.out, HI2.out.below HBE.out, ((HBB.out.trans XT.out).trans (extg HX.out)).trans (Ext.of_below HBE.out), ((HKG.out.trans KP.out).trans HK.out).trans (keeps_below HBE.out)⟩
set_option maxHeartbeats 4000000 in
set_option maxRecDepth 100000 in
theorem step_go {B : Nat} {w : World} {g m : Nat} {wait again pause now tk times last : Int} {rest : Int → Int} {y : SV} {pre post : List (SV)} (h : IsM B w g m ⟨wait, again, pause, now, tk, (pre ++ y :: post), none, times, last, rest⟩) (hB : B ≤ w.heap.size) (t : Int) (h0 : 0 ≤ t) (h1 : now ≤ t)  (hs1 : ∀ z ∈ pre, t < rest z.u) (hs : rest y.u ≤ t) (hl : (pre ++ y :: post).length ≤ 1000) {vs : List Int} (hV : IRow w y.A y.l vs) (hvl : y.l ≤ 100000) : Calls Try.prog 12 #[.pointer (some ⟨g, 0, none⟩), .int .i64 t] w fun e w' => ∃ va vd, e = .returned (.tuple #[va, vd, .int .i64 0]) ∧ StepS B w w' g m y vs none ⟨wait, again, pause, t, tk, (pre ++ post), some y, wrap64 (0 + 1), t, rest⟩ va vd := by
 have H := Aside0.mk h; have HB := Aside0.mk hB; have T0 := Aside0.mk h0; have T1 := Aside0.mk h1
 have HV := Aside0.mk hV; have HVL := Aside0.mk hvl; clear hV hvl
 have HS1 := Aside0.mk hs1; have HLX := Aside0.mk hl; clear hs1 hl
 obtain ⟨np, hnp⟩ : ∃ np, pre.length = np := ⟨_, rfl⟩; have HNP := Aside0.mk hnp; obtain ⟨nq, hnq⟩ : ∃ nq, post.length = nq := ⟨_, rfl⟩; have HNQ := Aside0.mk hnq; have HS2 := Aside0.mk hs; clear hnp hnq hs
 clear h hB h0 h1
 have hu39 := Try.underlying39; have hu48 := Try.underlying48
 go_enter Try.func12, Try.ntmps12
 go_wp2_with (fail)
 go_step3
 go_upto_region 5 with (go_at_call 31; refine (goon_f H.out HB.out t T0.out T1.out).mono ?_; rintro e w1 ⟨rfl, HI, HXg, HKg⟩; have HI := Aside0.mk HI; have HBB : Aside0 (Ext (Gm g m) w w1) := ⟨extg HXg⟩; have HKG := Aside0.mk HKg; clear HXg HKg)
 clear H
 have HBW : Aside0 (B ≤ w1.heap.size) := ⟨Nat.le_trans HB.out HBB.out.size⟩
 obtain ⟨⟨vl, vo, hb, hl, ho⟩, ⟨f, n, hm, hf⟩⟩ := HI.out
 clear HI
 obtain rfl : vo = .pointer none := ho
 have BK_g : Aside0 (w1.heap[g]? = some (.cells #[.int .i64 wait, .int .i64 again, .int .i64 pause, .int .i64 t, .int .i64 tk, vl, .pointer none, .int .i64 times, .int .i64 last, .map (some m)] 73 (0, 0))) := ⟨hb⟩
 have OB_l : Aside0 (OwnE ks (fun _ => False) 39 B w1 vl (pre ++ y :: post)) := ⟨hl⟩
 have MP_m := Aside0.mk hm; have HF := Aside0.mk hf
 have NE_l_g : Aside0 (∀ k, (vl).ownBlock = some k → k ≠ g) := ⟨ks_ne hl hb (by decide)⟩; have NE_l_m : Aside0 (∀ k, (vl).ownBlock = some k → k ≠ m) := ⟨ks_nm hl hm⟩; have NE_g_m : Aside0 (g ≠ m) := ⟨cell_nm hb hm⟩; have NE_m_g : Aside0 (m ≠ g) := ⟨fun e => NE_g_m.out e.symm⟩; have F_g : Aside0 (∀ k, k = g → Gm g m k ∨ w1.heap.size ≤ k) := ⟨fun k e => .inl (.inl e)⟩; have F_m : Aside0 (∀ k, k = m → Gm g m k ∨ w1.heap.size ≤ k) := ⟨fun k e => .inl (.inr e)⟩
 clear hb hl hm hf
 obtain ⟨A, nl, c, e, hn, hcap⟩ := row_n OB_l.out
 obtain rfl : vl = (Value.slice A nl c) := e
 have HCAP := Aside0.mk hcap; have HN := Aside0.mk hn; clear hcap hn
 obtain ⟨ad, ead, _⟩ := row_i OB_l.out (get_mid HNP.out)
 subst ead
 have XT : Aside0 (Ext (Gm g m) w1 w1) := ⟨Ext.refl _ _⟩
 refine cl10_ BK_g.out ?_; intro lc1_0 lc1_1 lc1_2 lc1_3 lc1_4 lc1_5 lc1_6 lc1_7 lc1_8 lc1_9 lf1_0 lf1_1 lf1_2 lf1_3 lf1_4 lf1_5 lf1_6 lf1_7 lf1_8 lf1_9
 have KP : Aside0 (Keeps w1 w1) := ⟨fun _ _ _ h _ _ => h⟩
 have HV1 : Aside0 (IRow w1 y.A y.l vs) := ⟨HKG.out.row HV.out⟩
 clear lc1_0 lc1_1 lc1_2 lc1_3 lc1_4 lc1_5 lc1_6 lc1_7 lc1_8 lc1_9 lf1_0 lf1_1 lf1_2 lf1_3 lf1_4 lf1_5 lf1_6 lf1_7 lf1_8 lf1_9
 refine start_ (n := 18) (S := fun W => W.cell? ⟨g, 6, none⟩ = some (.pointer none) ∧ W.cell? ⟨g, 8, none⟩ = some (.int .i64 last) ∧ W.cell? ⟨g, 0, none⟩ = some (.int .i64 wait)) (ds := []) (fl 18 0) (by kernel_rfl) rfl (by kernel_rfl) ?_ (fun hHeld => ?_)
 ·exact ⟨(blk_cell (bk_ BK_g) 6).trans rfl, (blk_cell (bk_ BK_g) 8).trans rfl, (blk_cell (bk_ BK_g) 0).trans rfl⟩
 refine pu_ 0 17 (fl 18 1) rfl rfl (by kernel_rfl) ?_
 refine pu_ 1 18 (fl 18 3) rfl rfl (by kernel_rfl) ?_
 refine pu_ 2 19 (fl 18 7) rfl rfl (by kernel_rfl) ?_
 refine tk_ 3 20 (fl 18 15) rfl rfl (by kernel_rfl) hHeld ?_
 refine pu_ 4 21 (fl 18 31) rfl rfl (by kernel_rfl) ?_
 refine pu_ 5 22 (fl 18 63) rfl rfl (by kernel_rfl) ?_
 refine pure_ (i := 6) (N := some 23) (v := undef) (a' := ?_) (fl 18 127) rfl rfl (by kernel_rfl) (fun _ _ _ h => h) (Or.inr ⟨by rfl, rfl⟩) ?_ ?_
 rotate_left
 ·simp only [Act.put, List.setIfInBounds_toArray, List.set_cons_zero, List.set_cons_succ, i64_w, i32_w]
  rfl
 refine pure_ (i := 7) (N := some 24) (v := undef) (a' := ?_) (fl 18 255) rfl rfl (by kernel_rfl) (fun _ _ _ h => h) (Or.inr ⟨by rfl, rfl⟩) ?_ ?_
 rotate_left
 ·simp only [Act.put, List.setIfInBounds_toArray, List.set_cons_zero, List.set_cons_succ, i64_w, i32_w]
  rfl
 refine pure_ (i := 8) (N := some 25) (v := undef) (a' := ?_) (fl 18 511) rfl rfl (by kernel_rfl) (fun _ _ _ h => h) (Or.inr ⟨by rfl, rfl⟩) ?_ ?_
 rotate_left
 ·simp only [Act.put, List.setIfInBounds_toArray, List.set_cons_zero, List.set_cons_succ, i64_w, i32_w]
  rfl
 refine pure_ (i := 9) (N := some 26) (v := undef) (a' := ?_) (fl 18 1023) rfl rfl (by kernel_rfl) (fun _ _ _ h => h) (Or.inr ⟨by rfl, rfl⟩) ?_ ?_
 rotate_left
 ·simp only [Act.put, List.setIfInBounds_toArray, List.set_cons_zero, List.set_cons_succ, i64_w, i32_w]
  rfl
 refine pure_ (i := 10) (N := some 27) (v := undef) (a' := ?_) (fl 18 2047) rfl rfl (by kernel_rfl) (fun _ _ _ h => h) (Or.inr ⟨by rfl, rfl⟩) ?_ ?_
 rotate_left
 ·simp only [Act.put, List.setIfInBounds_toArray, List.set_cons_zero, List.set_cons_succ, i64_w, i32_w]
  rfl
 refine pure_ (i := 11) (N := some 28) (v := undef) (a' := ?_) (fl 18 4095) rfl rfl (by kernel_rfl) (fun _ _ _ h => h) (Or.inr ⟨by rfl, rfl⟩) ?_ ?_
 rotate_left
 ·simp only [Act.put, List.setIfInBounds_toArray, List.set_cons_zero, List.set_cons_succ, i64_w, i32_w]
  rfl
 refine pure_ (i := 12) (N := some 29) (v := undef) (a' := ?_) (fl 18 8191) rfl rfl (by kernel_rfl) (fun _ _ _ h => h) (Or.inr ⟨by rfl, rfl⟩) ?_ ?_
 rotate_left
 ·simp only [Act.put, List.setIfInBounds_toArray, List.set_cons_zero, List.set_cons_succ, i64_w, i32_w]
  rfl
 refine pure_ (i := 13) (N := some 30) (v := undef) (a' := ?_) (fl 18 16383) rfl rfl (by kernel_rfl) (fun _ _ _ h => h) (Or.inr ⟨by rfl, rfl⟩) ?_ ?_
 rotate_left
 ·simp only [Act.put, List.setIfInBounds_toArray, List.set_cons_zero, List.set_cons_succ, i64_w, i32_w]
  rfl
 refine pure_ (i := 14) (N := some 31) (v := undef) (a' := ?_) (fl 18 32767) rfl rfl (by kernel_rfl) (fun _ _ _ h => h) (Or.inr ⟨by rfl, rfl⟩) ?_ ?_
 rotate_left
 ·simp only [Act.put, List.setIfInBounds_toArray, List.set_cons_zero, List.set_cons_succ, i64_w, i32_w]
  rfl
 refine pure_ (i := 15) (N := some 32) (v := undef) (a' := ?_) (fl 18 65535) rfl rfl (by kernel_rfl) (fun _ _ _ h => h) (Or.inr ⟨by rfl, rfl⟩) ?_ ?_
 rotate_left
 ·simp only [Act.put, List.setIfInBounds_toArray, List.set_cons_zero, List.set_cons_succ, i64_w, i32_w]
  rfl
 refine pure_ (i := 16) (N := some 33) (v := undef) (a' := ?_) (fl 18 131071) rfl rfl (by kernel_rfl) (fun _ _ _ h => h) (Or.inr ⟨by rfl, rfl⟩) ?_ ?_
 rotate_left
 ·simp only [Act.put, List.setIfInBounds_toArray, List.set_cons_zero, List.set_cons_succ, i64_w, i32_w]
  rfl
 refine pu_ 17 34 (fl 18 262143) rfl rfl (by kernel_rfl) ?_
 refine done_ (by kernel_rfl) ?_
 generalize hwd : World.drew w1 = w2
 have HBc : Below w1.heap.size w1 w2 := (by rw [← hwd]; exact below_drew (Below.refl _ _))
 clear hwd
 replace OB_l := Aside0.mk (ks_mv OB_l.out (Ext.none_ HBc) (fun _ _ e => e))
 replace KP := Aside0.mk (keeps_then KP.out HBc)
 replace BK_g := Aside0.mk (Ext.blk (Ext.none_ HBc) BK_g.out (fun e => e))
 replace MP_m := Aside0.mk (IsMap.ext MP_m.out (Ext.none_ HBc) (fun e => e))
 replace XT := Aside0.mk (XT.out.stepB HBc)
 clear HBc
 refine cl10_ BK_g.out ?_; intro lc2_0 lc2_1 lc2_2 lc2_3 lc2_4 lc2_5 lc2_6 lc2_7 lc2_8 lc2_9 lf2_0 lf2_1 lf2_2 lf2_3 lf2_4 lf2_5 lf2_6 lf2_7 lf2_8 lf2_9
 go_wp2_with (fail)
 go_step3
 clear lc2_0 lc2_1 lc2_2 lc2_3 lc2_4 lc2_5 lc2_6 lc2_7 lc2_8 lc2_9 lf2_0 lf2_1 lf2_2 lf2_3 lf2_4 lf2_5 lf2_6 lf2_7 lf2_8 lf2_9
 refine cl10_ BK_g.out ?_; intro lc3_0 lc3_1 lc3_2 lc3_3 lc3_4 lc3_5 lc3_6 lc3_7 lc3_8 lc3_9 lf3_0 lf3_1 lf3_2 lf3_3 lf3_4 lf3_5 lf3_6 lf3_7 lf3_8 lf3_9
 go_wp2_with (fail)
 go_loopw [89] (fun v wr => ∃ i : Nat, v = .int .i64 (i : Int) ∧ i ≤ np ∧ Aside0 (wr.heap[g]? = some (.cells #[.int .i64 wait, .int .i64 again, .int .i64 pause, .int .i64 t, .int .i64 tk, .slice (some ad) nl c, .pointer none, .int .i64 times, .int .i64 last, .map (some m)] 73 (0, 0))) ∧ Aside0 (IsMap wr m (f) (n)) ∧ Aside0 (Ext (Gm g m) w1 wr) ∧ Aside0 (OwnE ks (fun _ => False) 39 B wr (Value.slice (some ad) nl c) (pre ++ y :: post)) ∧ Aside0 (Keeps w1 wr)) (fun v _ => nl + 1 - (intOf v).toNat)
 case atStart => exact ⟨0, rfl, Nat.zero_le _, BK_g, MP_m, XT, OB_l, KP⟩
 case round =>
  clear BK_g MP_m XT OB_l KP lc3_0 lc3_1 lc3_2 lc3_3 lc3_4 lc3_5 lc3_6 lc3_7 lc3_8 lc3_9 lf3_0 lf3_1 lf3_2 lf3_3 lf3_4 lf3_5 lf3_6 lf3_7 lf3_8 lf3_9
  obtain ⟨i, rfl, hle, BK_g, MP_m, XT, OB_l, KP⟩ := hrel
  by_cases hlt : i < np
  ·have HLT := Aside0.mk hlt
   have hin : i < nl := by have := HN.out; have := HNP.out; simp only [List.length_append, List.length_cons] at *; omega
   have HIN_ := Aside0.mk hin
   obtain ⟨z, hzm, hz⟩ := get_pre (l2 := y :: post) (i := i) (by rw [HNP.out]; exact hlt)
   obtain ⟨ad_, ead, hat⟩ := row_i OB_l.out hz; obtain rfl : ad = ad_ := by injection ead
   have hsz := HS1.out z hzm
   refine cl10_ BK_g.out ?_; intro lc4_0 lc4_1 lc4_2 lc4_3 lc4_4 lc4_5 lc4_6 lc4_7 lc4_8 lc4_9 lf4_0 lf4_1 lf4_2 lf4_3 lf4_4 lf4_5 lf4_6 lf4_7 lf4_8 lf4_9
   have c0 : decide ((i : Int) < (nl : Int)) = true := decide_eq_true (by omega); have c0n : decide (i < nl) = true := decide_eq_true hin
   obtain ⟨rv, hrv⟩ : ∃ r : Int, r = rest z.u := ⟨_, rfl⟩
   rw [← hrv] at hsz
   have q7 : decide (t < rv) = true := decide_eq_true hsz
   have HRV := Aside0.mk hrv; clear hrv hsz hzm hz
   unfold At at hat
   obtain ⟨lr0, lr1, lr2, lr3, lr4, lr5, lr6, lr7, lr8⟩ := hat
   go_upto_region 16 with (first | ((with_reducible refine gate_dst (N := 10) rfl ?_); refine bx_ (N := 10) (cs := #[.int .i64 0, .int .i64 0, .int .i64 0, .int .i64 0, .int .i64 0, .slice none 0 0, .int .i64 0, .int .i64 0, .int .i64 0]) (t := 39) ?_; intro s hg w3 hbox HBc; have NE_l_s : Aside0 (∀ k, ((Value.slice (some ad) nl c)).ownBlock = some k → k ≠ s) := ⟨fun k hk e => by have := OwnE.lt OB_l.out k hk; omega⟩; have NE_g_s : Aside0 (g ≠ s) := ⟨ne_born (blk_lt BK_g.out) hg⟩; have NE_s_g : Aside0 (s ≠ g) := ⟨fun e => NE_g_s.out e.symm⟩; have NE_m_s : Aside0 (m ≠ s) := ⟨ne_born (IsMap.lt MP_m.out) hg⟩; have NE_s_m : Aside0 (s ≠ m) := ⟨fun e => NE_m_s.out e.symm⟩; have F_s : Aside0 (∀ k, k = s → (Gm g m) k ∨ w1.heap.size ≤ k) := ⟨fnew hg XT.out.size⟩; have RG_s : Aside0 (w1.heap.size ≤ s) := ⟨Nat.le_trans XT.out.size (Nat.le_of_eq hg.symm)⟩; have BG_s : Aside0 (B ≤ s) := ⟨Nat.le_trans HBW.out RG_s.out⟩; clear hg; replace OB_l := Aside0.mk (ks_mv OB_l.out (Ext.none_ HBc) (fun _ _ e => e)); replace KP := Aside0.mk (keeps_then KP.out HBc); clear lc4_0 lc4_1 lc4_2 lc4_3 lc4_4 lc4_5 lc4_6 lc4_7 lc4_8 lc4_9 lf4_0 lf4_1 lf4_2 lf4_3 lf4_4 lf4_5 lf4_6 lf4_7 lf4_8 lf4_9; replace BK_g := Aside0.mk (Ext.blk (Ext.none_ HBc) BK_g.out (fun e => e)); replace MP_m := Aside0.mk (IsMap.ext MP_m.out (Ext.none_ HBc) (fun e => e)); replace XT := Aside0.mk (XT.out.stepB HBc); have BK_s : Aside0 (w3.heap[s]? = some (.cells #[.int .i64 0, .int .i64 0, .int .i64 0, .int .i64 0, .int .i64 0, .slice none 0 0, .int .i64 0, .int .i64 0, .int .i64 0] 39 (0, 0))) := ⟨hbox⟩; clear hbox HBc; refine cl10_ BK_g.out ?_; intro lc5_0 lc5_1 lc5_2 lc5_3 lc5_4 lc5_5 lc5_6 lc5_7 lc5_8 lc5_9 lf5_0 lf5_1 lf5_2 lf5_3 lf5_4 lf5_5 lf5_6 lf5_7 lf5_8 lf5_9; refine cl9_ BK_s.out ?_; intro lc6_0 lc6_1 lc6_2 lc6_3 lc6_4 lc6_5 lc6_6 lc6_7 lc6_8 lf6_0 lf6_1 lf6_2 lf6_3 lf6_4 lf6_5 lf6_6 lf6_7 lf6_8) | ((with_reducible refine gate_store (p := 10) rfl ?_); refine store_event (w1 := ?_) rfl (p := 10) rfl rfl ?hr ?_; rotate_left; (case hr => go_simp; rfl); intro w4 hw_; have hput : w4.heap[s]? = some (.cells #[.int .i64 z.t, .int .i64 z.u, .int .i64 z.f, .int .i64 z.a, .int .i64 z.c, .slice z.A z.l z.k, .int .i64 z.o, .int .i64 z.n, .int .i64 z.r] 39 (0, 0)) := (by rw [hw_]; refine blk_put (cs := #[.int .i64 z.t, .int .i64 z.u, .int .i64 z.f, .int .i64 z.a, .int .i64 z.c, .slice z.A z.l z.k, .int .i64 z.o, .int .i64 z.n, .int .i64 0]) ?_ 8 _ rfl; refine blk_put (cs := #[.int .i64 z.t, .int .i64 z.u, .int .i64 z.f, .int .i64 z.a, .int .i64 z.c, .slice z.A z.l z.k, .int .i64 z.o, .int .i64 0, .int .i64 0]) ?_ 7 _ rfl; refine blk_put (cs := #[.int .i64 z.t, .int .i64 z.u, .int .i64 z.f, .int .i64 z.a, .int .i64 z.c, .slice z.A z.l z.k, .int .i64 0, .int .i64 0, .int .i64 0]) ?_ 6 _ rfl; refine blk_put (cs := #[.int .i64 z.t, .int .i64 z.u, .int .i64 z.f, .int .i64 z.a, .int .i64 z.c, .slice none 0 0, .int .i64 0, .int .i64 0, .int .i64 0]) ?_ 5 _ rfl; refine blk_put (cs := #[.int .i64 z.t, .int .i64 z.u, .int .i64 z.f, .int .i64 z.a, .int .i64 0, .slice none 0 0, .int .i64 0, .int .i64 0, .int .i64 0]) ?_ 4 _ rfl; refine blk_put (cs := #[.int .i64 z.t, .int .i64 z.u, .int .i64 z.f, .int .i64 0, .int .i64 0, .slice none 0 0, .int .i64 0, .int .i64 0, .int .i64 0]) ?_ 3 _ rfl; refine blk_put (cs := #[.int .i64 z.t, .int .i64 z.u, .int .i64 0, .int .i64 0, .int .i64 0, .slice none 0 0, .int .i64 0, .int .i64 0, .int .i64 0]) ?_ 2 _ rfl; refine blk_put (cs := #[.int .i64 z.t, .int .i64 0, .int .i64 0, .int .i64 0, .int .i64 0, .slice none 0 0, .int .i64 0, .int .i64 0, .int .i64 0]) ?_ 1 _ rfl; refine blk_put (cs := #[.int .i64 0, .int .i64 0, .int .i64 0, .int .i64 0, .int .i64 0, .slice none 0 0, .int .i64 0, .int .i64 0, .int .i64 0]) ?_ 0 _ rfl; exact BK_s.out); have HEc : Ext (fun k => k = s) w3 w4 := (by rw [hw_]; exact ((((((((((Ext.refl _ _).setg _).setg _).setg _).setg _).setg _).setg _).setg _).setg _).setg _)); clear hw_; replace OB_l := Aside0.mk (ks_mv OB_l.out HEc NE_l_s.out); replace KP := Aside0.mk (keeps_set KP.out HEc BK_s.out (.inr (.inl rfl))); clear lc5_0 lc5_1 lc5_2 lc5_3 lc5_4 lc5_5 lc5_6 lc5_7 lc5_8 lc5_9 lf5_0 lf5_1 lf5_2 lf5_3 lf5_4 lf5_5 lf5_6 lf5_7 lf5_8 lf5_9 lc6_0 lc6_1 lc6_2 lc6_3 lc6_4 lc6_5 lc6_6 lc6_7 lc6_8 lf6_0 lf6_1 lf6_2 lf6_3 lf6_4 lf6_5 lf6_6 lf6_7 lf6_8; replace BK_g := Aside0.mk (Ext.blk HEc BK_g.out NE_g_s.out); replace MP_m := Aside0.mk (IsMap.ext MP_m.out HEc NE_m_s.out); replace XT := Aside0.mk (XT.out.step HEc (F_s.out)); clear BK_s; have BK_s : Aside0 (w4.heap[s]? = some (.cells #[.int .i64 z.t, .int .i64 z.u, .int .i64 z.f, .int .i64 z.a, .int .i64 z.c, .slice z.A z.l z.k, .int .i64 z.o, .int .i64 z.n, .int .i64 z.r] 39 (0, 0))) := ⟨hput⟩; clear hput HEc; refine cl10_ BK_g.out ?_; intro lc7_0 lc7_1 lc7_2 lc7_3 lc7_4 lc7_5 lc7_6 lc7_7 lc7_8 lc7_9 lf7_0 lf7_1 lf7_2 lf7_3 lf7_4 lf7_5 lf7_6 lf7_7 lf7_8 lf7_9; refine cl9_ BK_s.out ?_; intro lc8_0 lc8_1 lc8_2 lc8_3 lc8_4 lc8_5 lc8_6 lc8_7 lc8_8 lf8_0 lf8_1 lf8_2 lf8_3 lf8_4 lf8_5 lf8_6 lf8_7 lf8_8))
   clear lr0 lr1 lr2 lr3 lr4 lr5 lr6 lr7 lr8
   clear lc7_0 lc7_1 lc7_2 lc7_3 lc7_4 lc7_5 lc7_6 lc7_7 lc7_8 lc7_9 lf7_0 lf7_1 lf7_2 lf7_3 lf7_4 lf7_5 lf7_6 lf7_7 lf7_8 lf7_9 lc8_0 lc8_1 lc8_2 lc8_3 lc8_4 lc8_5 lc8_6 lc8_7 lc8_8 lf8_0 lf8_1 lf8_2 lf8_3 lf8_4 lf8_5 lf8_6 lf8_7 lf8_8
   refine start_ (n := 9) (S := fun W => W.cell? ⟨g, 9, none⟩ = some (.map (some m)) ∧ W.cell? ⟨s, 1, none⟩ = some (.int .i64 z.u)) (ds := []) (fl 9 0) (by kernel_rfl) rfl (by kernel_rfl) ?_ (fun hHeld => ?_)
   ·exact ⟨(blk_cell (bk_ BK_g) 9).trans rfl, (blk_cell (bk_ BK_s) 1).trans rfl⟩
   refine pu_ 0 94 (fl 9 1) rfl rfl (by kernel_rfl) ?_
   refine pu_ 1 95 (fl 9 3) rfl rfl (by kernel_rfl) ?_
   refine pu_ 2 96 (fl 9 7) rfl rfl (by kernel_rfl) ?_
   refine tk_ 3 97 (fl 9 15) rfl rfl (by kernel_rfl) hHeld ?_
   refine pu_ 4 98 (fl 9 31) rfl rfl (by kernel_rfl) ?_
   refine tk_ 5 99 (fl 9 63) rfl rfl (by kernel_rfl) hHeld ?_
   refine pu_ 7 101 (fl 9 191) rfl rfl (by kernel_rfl) ?_
   refine one_ (i := 6) (N := some 100) (fl 9 255) rfl rfl (by kernel_rfl) (by decide) (fun K hK => ?_)
   refine look_step (k := z.u) (v := .int .i64 rv) (by rfl) rfl rfl (MP_m.out.ext (Ext.none_ (by repeat (first | exact Below.refl _ _ | apply pw_below_drewN | apply below_drew1))) (fun e => e)) Try.underlying70 Try.underlying3 zeroI ?hx ?hy ((HF.out z.u).trans (congrArg (Value.int .i64) HRV.out.symm)) ?_
   case hx => rfl
   case hy => rfl
   refine hK.out _ _ ?_ (fun hHeld => ?_)
   ·exact ⟨(blk_cell (bk_ BK_g) 9).trans rfl, (blk_cell (bk_ BK_s) 1).trans rfl⟩
   clear hK K
   refine norm_ (a' := ?_) ?_ ?_
   rotate_left
   ·show Act.put _ (some 100) _ = _
    simp only [Act.put, List.setIfInBounds_toArray, List.set_cons_zero, List.set_cons_succ, i64_w, i32_w]
    rfl
   refine pu_ 8 102 (fl 9 511) rfl rfl (by kernel_rfl) ?_
   refine done_ (by kernel_rfl) ?_
   generalize hwd : World.drew w4 = w5
   have HBc : Below w4.heap.size w4 w5 := (by rw [← hwd]; exact below_drew (Below.refl _ _))
   clear hwd
   replace OB_l := Aside0.mk (ks_mv OB_l.out (Ext.none_ HBc) (fun _ _ e => e))
   replace KP := Aside0.mk (keeps_then KP.out HBc)
   replace BK_g := Aside0.mk (Ext.blk (Ext.none_ HBc) BK_g.out (fun e => e))
   replace BK_s := Aside0.mk (Ext.blk (Ext.none_ HBc) BK_s.out (fun e => e))
   replace MP_m := Aside0.mk (IsMap.ext MP_m.out (Ext.none_ HBc) (fun e => e))
   replace XT := Aside0.mk (XT.out.stepB HBc)
   clear HBc
   refine cl10_ BK_g.out ?_; intro lc9_0 lc9_1 lc9_2 lc9_3 lc9_4 lc9_5 lc9_6 lc9_7 lc9_8 lc9_9 lf9_0 lf9_1 lf9_2 lf9_3 lf9_4 lf9_5 lf9_6 lf9_7 lf9_8 lf9_9
   refine cl9_ BK_s.out ?_; intro lc10_0 lc10_1 lc10_2 lc10_3 lc10_4 lc10_5 lc10_6 lc10_7 lc10_8 lf10_0 lf10_1 lf10_2 lf10_3 lf10_4 lf10_5 lf10_6 lf10_7 lf10_8
   have hw1 : wrap64 ((i : Int) + 1) = (i : Int) + 1 := by have h1 := HIN_.out; have h2 := HLX.out; have h3 := HN.out; rw [h3] at h2; unfold wrap64; omega
   have HW1 := Aside0.mk hw1
   go_wp2
   go_roundw
   case rel => exact ⟨i + 1, congrArg (Value.int .i64) (by first | rfl | exact HW1.out | (rw [HW1.out]; rfl)), HLT.out, BK_g, MP_m, XT, OB_l, KP⟩
   case measure => first | exact meas HIN_.out | exact measw HW1.out HIN_.out
  have hie : i = np := by omega
  clear hle hlt
  subst hie
  have hin : i < nl := by have := HN.out; have := HNP.out; simp only [List.length_append, List.length_cons] at *; omega
  have HIN_ := Aside0.mk hin
  obtain ⟨ad_, ead, hat⟩ := row_i OB_l.out (get_mid HNP.out); obtain rfl : ad = ad_ := by injection ead
  have hsz := HS2.out
  refine cl10_ BK_g.out ?_; intro lc4_0 lc4_1 lc4_2 lc4_3 lc4_4 lc4_5 lc4_6 lc4_7 lc4_8 lc4_9 lf4_0 lf4_1 lf4_2 lf4_3 lf4_4 lf4_5 lf4_6 lf4_7 lf4_8 lf4_9
  have c0 : decide ((i : Int) < (nl : Int)) = true := decide_eq_true (by omega); have c0n : decide (i < nl) = true := decide_eq_true hin
  obtain ⟨rv, hrv⟩ : ∃ r : Int, r = rest y.u := ⟨_, rfl⟩
  rw [← hrv] at hsz
  have q7 : decide (t < rv) = false := decide_eq_false (Int.not_lt.2 hsz)
  have HRV := Aside0.mk hrv; clear hrv hsz
  unfold At at hat
  obtain ⟨lr0, lr1, lr2, lr3, lr4, lr5, lr6, lr7, lr8⟩ := hat
  go_upto_region 16 with (first | ((with_reducible refine gate_dst (N := 10) rfl ?_); refine bx_ (N := 10) (cs := #[.int .i64 0, .int .i64 0, .int .i64 0, .int .i64 0, .int .i64 0, .slice none 0 0, .int .i64 0, .int .i64 0, .int .i64 0]) (t := 39) ?_; intro s hg w23 hbox HBc; have NE_l_s : Aside0 (∀ k, ((Value.slice (some ad) nl c)).ownBlock = some k → k ≠ s) := ⟨fun k hk e => by have := OwnE.lt OB_l.out k hk; omega⟩; have NE_g_s : Aside0 (g ≠ s) := ⟨ne_born (blk_lt BK_g.out) hg⟩; have NE_s_g : Aside0 (s ≠ g) := ⟨fun e => NE_g_s.out e.symm⟩; have NE_m_s : Aside0 (m ≠ s) := ⟨ne_born (IsMap.lt MP_m.out) hg⟩; have NE_s_m : Aside0 (s ≠ m) := ⟨fun e => NE_m_s.out e.symm⟩; have F_s : Aside0 (∀ k, k = s → (Gm g m) k ∨ w1.heap.size ≤ k) := ⟨fnew hg XT.out.size⟩; have RG_s : Aside0 (w1.heap.size ≤ s) := ⟨Nat.le_trans XT.out.size (Nat.le_of_eq hg.symm)⟩; have BG_s : Aside0 (B ≤ s) := ⟨Nat.le_trans HBW.out RG_s.out⟩; clear hg; replace OB_l := Aside0.mk (ks_mv OB_l.out (Ext.none_ HBc) (fun _ _ e => e)); replace KP := Aside0.mk (keeps_then KP.out HBc); clear lc4_0 lc4_1 lc4_2 lc4_3 lc4_4 lc4_5 lc4_6 lc4_7 lc4_8 lc4_9 lf4_0 lf4_1 lf4_2 lf4_3 lf4_4 lf4_5 lf4_6 lf4_7 lf4_8 lf4_9; replace BK_g := Aside0.mk (Ext.blk (Ext.none_ HBc) BK_g.out (fun e => e)); replace MP_m := Aside0.mk (IsMap.ext MP_m.out (Ext.none_ HBc) (fun e => e)); replace XT := Aside0.mk (XT.out.stepB HBc); have BK_s : Aside0 (w23.heap[s]? = some (.cells #[.int .i64 0, .int .i64 0, .int .i64 0, .int .i64 0, .int .i64 0, .slice none 0 0, .int .i64 0, .int .i64 0, .int .i64 0] 39 (0, 0))) := ⟨hbox⟩; clear hbox HBc; refine cl10_ BK_g.out ?_; intro lc5_0 lc5_1 lc5_2 lc5_3 lc5_4 lc5_5 lc5_6 lc5_7 lc5_8 lc5_9 lf5_0 lf5_1 lf5_2 lf5_3 lf5_4 lf5_5 lf5_6 lf5_7 lf5_8 lf5_9; refine cl9_ BK_s.out ?_; intro lc6_0 lc6_1 lc6_2 lc6_3 lc6_4 lc6_5 lc6_6 lc6_7 lc6_8 lf6_0 lf6_1 lf6_2 lf6_3 lf6_4 lf6_5 lf6_6 lf6_7 lf6_8) | ((with_reducible refine gate_store (p := 10) rfl ?_); refine store_event (w1 := ?_) rfl (p := 10) rfl rfl ?hr ?_; rotate_left; (case hr => go_simp; rfl); intro w24 hw_; have hput : w24.heap[s]? = some (.cells #[.int .i64 y.t, .int .i64 y.u, .int .i64 y.f, .int .i64 y.a, .int .i64 y.c, .slice y.A y.l y.k, .int .i64 y.o, .int .i64 y.n, .int .i64 y.r] 39 (0, 0)) := (by rw [hw_]; refine blk_put (cs := #[.int .i64 y.t, .int .i64 y.u, .int .i64 y.f, .int .i64 y.a, .int .i64 y.c, .slice y.A y.l y.k, .int .i64 y.o, .int .i64 y.n, .int .i64 0]) ?_ 8 _ rfl; refine blk_put (cs := #[.int .i64 y.t, .int .i64 y.u, .int .i64 y.f, .int .i64 y.a, .int .i64 y.c, .slice y.A y.l y.k, .int .i64 y.o, .int .i64 0, .int .i64 0]) ?_ 7 _ rfl; refine blk_put (cs := #[.int .i64 y.t, .int .i64 y.u, .int .i64 y.f, .int .i64 y.a, .int .i64 y.c, .slice y.A y.l y.k, .int .i64 0, .int .i64 0, .int .i64 0]) ?_ 6 _ rfl; refine blk_put (cs := #[.int .i64 y.t, .int .i64 y.u, .int .i64 y.f, .int .i64 y.a, .int .i64 y.c, .slice none 0 0, .int .i64 0, .int .i64 0, .int .i64 0]) ?_ 5 _ rfl; refine blk_put (cs := #[.int .i64 y.t, .int .i64 y.u, .int .i64 y.f, .int .i64 y.a, .int .i64 0, .slice none 0 0, .int .i64 0, .int .i64 0, .int .i64 0]) ?_ 4 _ rfl; refine blk_put (cs := #[.int .i64 y.t, .int .i64 y.u, .int .i64 y.f, .int .i64 0, .int .i64 0, .slice none 0 0, .int .i64 0, .int .i64 0, .int .i64 0]) ?_ 3 _ rfl; refine blk_put (cs := #[.int .i64 y.t, .int .i64 y.u, .int .i64 0, .int .i64 0, .int .i64 0, .slice none 0 0, .int .i64 0, .int .i64 0, .int .i64 0]) ?_ 2 _ rfl; refine blk_put (cs := #[.int .i64 y.t, .int .i64 0, .int .i64 0, .int .i64 0, .int .i64 0, .slice none 0 0, .int .i64 0, .int .i64 0, .int .i64 0]) ?_ 1 _ rfl; refine blk_put (cs := #[.int .i64 0, .int .i64 0, .int .i64 0, .int .i64 0, .int .i64 0, .slice none 0 0, .int .i64 0, .int .i64 0, .int .i64 0]) ?_ 0 _ rfl; exact BK_s.out); have HEc : Ext (fun k => k = s) w23 w24 := (by rw [hw_]; exact ((((((((((Ext.refl _ _).setg _).setg _).setg _).setg _).setg _).setg _).setg _).setg _).setg _)); clear hw_; replace OB_l := Aside0.mk (ks_mv OB_l.out HEc NE_l_s.out); replace KP := Aside0.mk (keeps_set KP.out HEc BK_s.out (.inr (.inl rfl))); clear lc5_0 lc5_1 lc5_2 lc5_3 lc5_4 lc5_5 lc5_6 lc5_7 lc5_8 lc5_9 lf5_0 lf5_1 lf5_2 lf5_3 lf5_4 lf5_5 lf5_6 lf5_7 lf5_8 lf5_9 lc6_0 lc6_1 lc6_2 lc6_3 lc6_4 lc6_5 lc6_6 lc6_7 lc6_8 lf6_0 lf6_1 lf6_2 lf6_3 lf6_4 lf6_5 lf6_6 lf6_7 lf6_8; replace BK_g := Aside0.mk (Ext.blk HEc BK_g.out NE_g_s.out); replace MP_m := Aside0.mk (IsMap.ext MP_m.out HEc NE_m_s.out); replace XT := Aside0.mk (XT.out.step HEc (F_s.out)); clear BK_s; have BK_s : Aside0 (w24.heap[s]? = some (.cells #[.int .i64 y.t, .int .i64 y.u, .int .i64 y.f, .int .i64 y.a, .int .i64 y.c, .slice y.A y.l y.k, .int .i64 y.o, .int .i64 y.n, .int .i64 y.r] 39 (0, 0))) := ⟨hput⟩; clear hput HEc; refine cl10_ BK_g.out ?_; intro lc7_0 lc7_1 lc7_2 lc7_3 lc7_4 lc7_5 lc7_6 lc7_7 lc7_8 lc7_9 lf7_0 lf7_1 lf7_2 lf7_3 lf7_4 lf7_5 lf7_6 lf7_7 lf7_8 lf7_9; refine cl9_ BK_s.out ?_; intro lc8_0 lc8_1 lc8_2 lc8_3 lc8_4 lc8_5 lc8_6 lc8_7 lc8_8 lf8_0 lf8_1 lf8_2 lf8_3 lf8_4 lf8_5 lf8_6 lf8_7 lf8_8))
  clear lr0 lr1 lr2 lr3 lr4 lr5 lr6 lr7 lr8
  clear lc7_0 lc7_1 lc7_2 lc7_3 lc7_4 lc7_5 lc7_6 lc7_7 lc7_8 lc7_9 lf7_0 lf7_1 lf7_2 lf7_3 lf7_4 lf7_5 lf7_6 lf7_7 lf7_8 lf7_9 lc8_0 lc8_1 lc8_2 lc8_3 lc8_4 lc8_5 lc8_6 lc8_7 lc8_8 lf8_0 lf8_1 lf8_2 lf8_3 lf8_4 lf8_5 lf8_6 lf8_7 lf8_8
  refine start_ (n := 9) (S := fun W => W.cell? ⟨g, 9, none⟩ = some (.map (some m)) ∧ W.cell? ⟨s, 1, none⟩ = some (.int .i64 y.u)) (ds := []) (fl 9 0) (by kernel_rfl) rfl (by kernel_rfl) ?_ (fun hHeld => ?_)
  ·exact ⟨(blk_cell (bk_ BK_g) 9).trans rfl, (blk_cell (bk_ BK_s) 1).trans rfl⟩
  refine pu_ 0 94 (fl 9 1) rfl rfl (by kernel_rfl) ?_
  refine pu_ 1 95 (fl 9 3) rfl rfl (by kernel_rfl) ?_
  refine pu_ 2 96 (fl 9 7) rfl rfl (by kernel_rfl) ?_
  refine tk_ 3 97 (fl 9 15) rfl rfl (by kernel_rfl) hHeld ?_
  refine pu_ 4 98 (fl 9 31) rfl rfl (by kernel_rfl) ?_
  refine tk_ 5 99 (fl 9 63) rfl rfl (by kernel_rfl) hHeld ?_
  refine pu_ 7 101 (fl 9 191) rfl rfl (by kernel_rfl) ?_
  refine one_ (i := 6) (N := some 100) (fl 9 255) rfl rfl (by kernel_rfl) (by decide) (fun K hK => ?_)
  refine look_step (k := y.u) (v := .int .i64 rv) (by rfl) rfl rfl (MP_m.out.ext (Ext.none_ (by repeat (first | exact Below.refl _ _ | apply pw_below_drewN | apply below_drew1))) (fun e => e)) Try.underlying70 Try.underlying3 zeroI ?hx ?hy ((HF.out y.u).trans (congrArg (Value.int .i64) HRV.out.symm)) ?_
  case hx => rfl
  case hy => rfl
  refine hK.out _ _ ?_ (fun hHeld => ?_)
  ·exact ⟨(blk_cell (bk_ BK_g) 9).trans rfl, (blk_cell (bk_ BK_s) 1).trans rfl⟩
  clear hK K
  refine norm_ (a' := ?_) ?_ ?_
  rotate_left
  ·show Act.put _ (some 100) _ = _
   simp only [Act.put, List.setIfInBounds_toArray, List.set_cons_zero, List.set_cons_succ, i64_w, i32_w]
   rfl
  refine pu_ 8 102 (fl 9 511) rfl rfl (by kernel_rfl) ?_
  refine done_ (by kernel_rfl) ?_
  generalize hwd : World.drew w24 = w25
  have HBc : Below w24.heap.size w24 w25 := (by rw [← hwd]; exact below_drew (Below.refl _ _))
  clear hwd
  replace OB_l := Aside0.mk (ks_mv OB_l.out (Ext.none_ HBc) (fun _ _ e => e))
  replace KP := Aside0.mk (keeps_then KP.out HBc)
  replace BK_g := Aside0.mk (Ext.blk (Ext.none_ HBc) BK_g.out (fun e => e))
  replace BK_s := Aside0.mk (Ext.blk (Ext.none_ HBc) BK_s.out (fun e => e))
  replace MP_m := Aside0.mk (IsMap.ext MP_m.out (Ext.none_ HBc) (fun e => e))
  replace XT := Aside0.mk (XT.out.stepB HBc)
  clear HBc
  go_upto_region 17 with (fail)
  have hnn : nl = i + 1 + nq := by have h1 := HN.out; have h2 := HNP.out; have h3 := HNQ.out; simp only [List.length_append, List.length_cons] at h1; omega
  obtain ⟨ip, hip⟩ : ∃ ip : Int, ip = (i : Int) + 1 := ⟨_, rfl⟩
  have hw1 : wrap64 ((i : Int) + 1) = ip := by have h2 := HLX.out; rw [HN.out] at h2; rw [hip]; unfold wrap64; omega
  have hs1 := slice_to ad c nl i (by omega) HCAP.out; have hs2 := slice_from ad c nl i nq ip hip hnn
  have hcu := row_cuts OB_l.out HNP.out HNQ.out HCAP.out HN.out
  generalize (if c = i + 1 then some ad else (some ad : Option Addr).map (·.add ((i + 1) * 9))) = A2 at hs2 hcu
  generalize c - (i + 1) = c2 at hs2
  have HVC := Aside0.mk hcu; have HNN := Aside0.mk hnn; clear hcu hnn hip
  have XT0 := XT; have LTS : Aside0 (s < w25.heap.size) := ⟨blk_lt BK_s.out⟩
  refine start_ (n := 19) (S := fun W => W.cell? ⟨g, 5, none⟩ = some (.slice (some ad) nl c)) (ds := [18]) (fl 19 0) (by kernel_rfl) rfl (by kernel_rfl) ?_ (fun hHeld => ?_)
  ·exact (blk_cell (bk_ BK_g) 5).trans rfl
  refine pu_ 0 103 (fl 19 1) rfl rfl (by kernel_rfl) ?_ (ha := by simp only [Act.put, List.setIfInBounds_toArray, List.set_cons_zero, List.set_cons_succ, i64_w, i32_w, hw1]; rfl)
  refine pu_ 1 104 (fl 19 3) rfl rfl (by kernel_rfl) ?_ (ha := by simp only [Act.put, List.setIfInBounds_toArray, List.set_cons_zero, List.set_cons_succ, i64_w, i32_w, hw1]; rfl)
  refine pu_ 2 105 (fl 19 7) rfl rfl (by kernel_rfl) ?_ (ha := by simp only [Act.put, List.setIfInBounds_toArray, List.set_cons_zero, List.set_cons_succ, i64_w, i32_w, hw1]; rfl)
  refine pu_ 3 106 (fl 19 15) rfl rfl (by kernel_rfl) ?_ (ha := by simp only [Act.put, List.setIfInBounds_toArray, List.set_cons_zero, List.set_cons_succ, i64_w, i32_w, hw1]; rfl)
  refine tk_ 4 107 (fl 19 31) rfl rfl (by kernel_rfl) hHeld ?_ (ha := by simp only [Act.put, List.setIfInBounds_toArray, List.set_cons_zero, List.set_cons_succ, i64_w, i32_w, hw1]; rfl)
  refine pu_ 5 108 (fl 19 63) rfl rfl (by kernel_rfl) ?_ (ha := by simp only [Act.put, List.setIfInBounds_toArray, List.set_cons_zero, List.set_cons_succ, i64_w, i32_w, hw1]; rfl)
  refine tk_ 6 109 (fl 19 127) rfl rfl (by kernel_rfl) hHeld ?_ (ha := by simp only [Act.put, List.setIfInBounds_toArray, List.set_cons_zero, List.set_cons_succ, i64_w, i32_w, hw1]; rfl)
  refine pu_ 7 110 (fl 19 255) rfl rfl (by kernel_rfl) ?_ (ha := by simp only [Act.put, List.setIfInBounds_toArray, List.set_cons_zero, List.set_cons_succ, i64_w, i32_w, hw1]; rfl)
  refine pu_ 8 111 (fl 19 511) rfl rfl (by kernel_rfl) ?_ (ha := by simp only [Act.put, List.setIfInBounds_toArray, List.set_cons_zero, List.set_cons_succ, i64_w, i32_w, hw1]; rfl)
  refine pu_ 9 112 (fl 19 1023) rfl rfl (by kernel_rfl) ?_ (ha := by simp only [Act.put, List.setIfInBounds_toArray, List.set_cons_zero, List.set_cons_succ, i64_w, i32_w, hw1]; rfl)
  refine tk_ 10 113 (fl 19 2047) rfl rfl (by kernel_rfl) hHeld ?_ (ha := by simp only [Act.put, List.setIfInBounds_toArray, List.set_cons_zero, List.set_cons_succ, i64_w, i32_w, hw1]; rfl)
  refine pu_ 11 114 (fl 19 4095) rfl rfl (by kernel_rfl) ?_ (ha := by simp only [Act.put, List.setIfInBounds_toArray, List.set_cons_zero, List.set_cons_succ, i64_w, i32_w, hw1]; rfl)
  refine pu_ 12 115 (fl 19 8191) rfl rfl (by kernel_rfl) ?_ (ha := by simp only [Act.put, List.setIfInBounds_toArray, List.set_cons_zero, List.set_cons_succ, i64_w, i32_w, hw1]; rfl)
  refine tk_ 13 116 (fl 19 16383) rfl rfl (by kernel_rfl) hHeld ?_ (ha := by simp only [Act.put, List.setIfInBounds_toArray, List.set_cons_zero, List.set_cons_succ, i64_w, i32_w, hw1]; rfl)
  refine one_ (i := 14) (N := some 117) (fl 19 32767) rfl rfl (by kernel_rfl) (by decide) (fun K hK => ?_)
  refine value_ (v := ?vv) (w1 := ?ww) (by rfl) rfl ?hr ?kk
  case hr => (go_simp; refine And.intro ?_ ?_ <;> rfl)
  refine hK.out _ _ ?_ (fun hHeld => ?_)
  ·exact (blk_cell (bk_ BK_g) 5).trans rfl
  clear hK K
  refine norm_ (a' := ?_) ?_ ?_
  rotate_left
  ·show Act.put _ (some 117) _ = _
   simp only [Act.put, List.setIfInBounds_toArray, List.set_cons_zero, List.set_cons_succ, i64_w, i32_w, hw1]
   rfl
  refine one_ (i := 15) (N := some 118) (fl 19 65535) rfl rfl (by kernel_rfl) (by decide) (fun K hK => ?_)
  refine goes_ Try.func33 (by kernel_rfl) rfl #[.slice (some ⟨w25.heap.size, 0, none⟩) 2 2] (by rfl) rfl rfl (by (try simp only [List.map_toArray, List.map_cons, List.map_nil]); first | done | rfl) ?_
  refine (concat_c (some ad) A2 c c2 pre post i nq HNP.out HNQ.out w25.heap.size 2 _ ?hgb ?hv1 ?hvv (by have h2 := HLX.out; rw [HN.out] at h2; have := HNN.out; omega)).mono ?_
  case hgb => exact new_blk (W := w25) rfl
  case hv1 => exact Kd.C_below HVC.out.1 (by repeat (first | exact Below.refl _ _ | apply pw_below_drewN | apply below_drew1 | apply below_alloc))
  case hvv => exact Kd.C_below HVC.out.2 (by repeat (first | exact Below.refl _ _ | apply pw_below_drewN | apply below_drew1 | apply below_alloc))
  rintro e w26 ⟨vn, rfl, HOn, HBn⟩
  refine ⟨_, rfl, ?_⟩
  have HBc : Below w25.heap.size w25 w26 := below_step (by repeat (first | exact Below.refl _ _ | apply pw_below_drewN | apply below_drew1 | apply below_alloc)) HBn
  skip
  have HNS : Aside0 (∀ k, vn.ownBlock = some k → w25.heap.size ≤ k) := ⟨fun k hk => Nat.le_trans (below_size (by repeat (first | exact Below.refl _ _ | apply pw_below_drewN | apply below_drew1 | apply below_alloc))) (HOn.base_le k hk)⟩
  replace OB_l := Aside0.mk (ks_mv OB_l.out (Ext.none_ HBc) (fun _ _ e => e))
  replace KP := Aside0.mk (keeps_then KP.out HBc)
  replace BK_g := Aside0.mk (Ext.blk (Ext.none_ HBc) BK_g.out (fun e => e))
  replace BK_s := Aside0.mk (Ext.blk (Ext.none_ HBc) BK_s.out (fun e => e))
  replace MP_m := Aside0.mk (IsMap.ext MP_m.out (Ext.none_ HBc) (fun e => e))
  replace XT := Aside0.mk (XT.out.stepB HBc)
  have OB_n : Aside0 (OwnE ks (fun _ => False) 39 B w26 vn (pre ++ post)) := ⟨ks_low HOn (Nat.le_trans (Nat.le_trans HBW.out XT0.out.size) (below_size (by repeat (first | exact Below.refl _ _ | apply pw_below_drewN | apply below_drew1 | apply below_alloc))))⟩
  have NE_n_s : Aside0 (∀ k, (vn).ownBlock = some k → k ≠ s) := ⟨fun k hk e => by have := HNS.out k hk; have := LTS.out; omega⟩
  have NE_n_g : Aside0 (∀ k, (vn).ownBlock = some k → k ≠ g) := ⟨ks_ne HOn BK_g.out (by decide)⟩
  have NE_n_m : Aside0 (∀ k, (vn).ownBlock = some k → k ≠ m) := ⟨ks_nm HOn MP_m.out⟩
  clear HOn HBn HBc HNS HVC hs1 hs2 XT0 LTS OB_l NE_l_g NE_l_m NE_l_s
  have OB_l := OB_n; have NE_l_s := NE_n_s; have NE_l_g := NE_n_g; have NE_l_m := NE_n_m; clear OB_n NE_n_s NE_n_g NE_n_m
  obtain ⟨A3, n3, c3, rfl, _, _⟩ := row_n OB_l.out
  refine hK.out _ _ ?_ (fun hHeld => ?_)
  ·exact (blk_cell (bk_ BK_g) 5).trans rfl
  clear hK K
  refine norm_ (a' := ?_) ?_ ?_
  rotate_left
  ·show Act.put _ (some 118) _ = _
   simp only [Act.put, List.setIfInBounds_toArray, List.set_cons_zero, List.set_cons_succ, i64_w, i32_w, hw1]
   rfl
  refine pu_ 16 119 (fl 19 131071) rfl rfl (by kernel_rfl) ?_ (ha := by simp only [Act.put, List.setIfInBounds_toArray, List.set_cons_zero, List.set_cons_succ, i64_w, i32_w, hw1]; rfl)
  refine pu_ 17 120 (fl 19 262143) rfl rfl (by kernel_rfl) ?_ (ha := by simp only [Act.put, List.setIfInBounds_toArray, List.set_cons_zero, List.set_cons_succ, i64_w, i32_w, hw1]; rfl)
  refine last_ (i := 18) (N := none) (fl 19 524287) rfl rfl (by kernel_rfl) (by decide) (fun K hK => ?_)
  have lz : w26.cell? ⟨g, 5, none⟩ = some (.slice (some ad) nl c) := (blk_cell BK_g.out 5).trans rfl; have lzf := blk_frozen BK_g.out 5
  refine skip_ (w1 := ?_) (by rfl) rfl ?_ ?_
  rotate_left
  ·go_simp
   rfl
  clear lz lzf
  generalize hw_ : World.setCell w26 ⟨g, 5, none⟩ _ = w27
  obtain ⟨hput, HEc⟩ := put1 (cs' := #[.int .i64 wait, .int .i64 again, .int .i64 pause, .int .i64 t, .int .i64 tk, .slice A3 n3 c3, .pointer none, .int .i64 times, .int .i64 last, .map (some m)]) hw_.symm BK_g.out rfl
  clear hw_
  replace OB_l := Aside0.mk (ks_mv OB_l.out HEc NE_l_g.out)
  replace KP := Aside0.mk (keeps_set KP.out HEc BK_g.out (.inl rfl))
  replace BK_s := Aside0.mk (Ext.blk HEc BK_s.out NE_s_g.out)
  replace MP_m := Aside0.mk (IsMap.ext MP_m.out HEc NE_m_g.out)
  replace XT := Aside0.mk (XT.out.step HEc (F_g.out))
  clear BK_g
  have BK_g : Aside0 (w27.heap[g]? = some (.cells #[.int .i64 wait, .int .i64 again, .int .i64 pause, .int .i64 t, .int .i64 tk, .slice A3 n3 c3, .pointer none, .int .i64 times, .int .i64 last, .map (some m)] 73 (0, 0))) := ⟨hput⟩
  clear hput HEc
  refine hK.out _ _ ?_
  clear hK K
  refine done_ (by kernel_rfl) ?_
  clear hw1
  refine cl10_ BK_g.out ?_; intro lc9_0 lc9_1 lc9_2 lc9_3 lc9_4 lc9_5 lc9_6 lc9_7 lc9_8 lc9_9 lf9_0 lf9_1 lf9_2 lf9_3 lf9_4 lf9_5 lf9_6 lf9_7 lf9_8 lf9_9
  refine cl9_ BK_s.out ?_; intro lc10_0 lc10_1 lc10_2 lc10_3 lc10_4 lc10_5 lc10_6 lc10_7 lc10_8 lf10_0 lf10_1 lf10_2 lf10_3 lf10_4 lf10_5 lf10_6 lf10_7 lf10_8
  go_upto_region 19 with (first | ((with_reducible refine gate_store (p := 124) rfl ?_); refine store_event (w1 := ?_) rfl (p := 124) rfl rfl ?hr ?_; rotate_left; (case hr => go_simp; rfl); intro w28 hw_; obtain ⟨hput, HEc⟩ := put1 (cs' := #[.int .i64 wait, .int .i64 again, .int .i64 pause, .int .i64 t, .int .i64 tk, .slice A3 n3 c3, .pointer (some ⟨s, 0, none⟩), .int .i64 times, .int .i64 last, .map (some m)]) hw_ BK_g.out rfl; clear hw_; replace OB_l := Aside0.mk (ks_mv OB_l.out HEc NE_l_g.out); replace KP := Aside0.mk (keeps_set KP.out HEc BK_g.out (.inl rfl)); clear lc9_0 lc9_1 lc9_2 lc9_3 lc9_4 lc9_5 lc9_6 lc9_7 lc9_8 lc9_9 lf9_0 lf9_1 lf9_2 lf9_3 lf9_4 lf9_5 lf9_6 lf9_7 lf9_8 lf9_9 lc10_0 lc10_1 lc10_2 lc10_3 lc10_4 lc10_5 lc10_6 lc10_7 lc10_8 lf10_0 lf10_1 lf10_2 lf10_3 lf10_4 lf10_5 lf10_6 lf10_7 lf10_8; replace BK_s := Aside0.mk (Ext.blk HEc BK_s.out NE_s_g.out); replace MP_m := Aside0.mk (IsMap.ext MP_m.out HEc NE_m_g.out); replace XT := Aside0.mk (XT.out.step HEc (F_g.out)); clear BK_g; have BK_g : Aside0 (w28.heap[g]? = some (.cells #[.int .i64 wait, .int .i64 again, .int .i64 pause, .int .i64 t, .int .i64 tk, .slice A3 n3 c3, .pointer (some ⟨s, 0, none⟩), .int .i64 times, .int .i64 last, .map (some m)] 73 (0, 0))) := ⟨hput⟩; clear hput HEc; refine cl10_ BK_g.out ?_; intro lc11_0 lc11_1 lc11_2 lc11_3 lc11_4 lc11_5 lc11_6 lc11_7 lc11_8 lc11_9 lf11_0 lf11_1 lf11_2 lf11_3 lf11_4 lf11_5 lf11_6 lf11_7 lf11_8 lf11_9; refine cl9_ BK_s.out ?_; intro lc12_0 lc12_1 lc12_2 lc12_3 lc12_4 lc12_5 lc12_6 lc12_7 lc12_8 lf12_0 lf12_1 lf12_2 lf12_3 lf12_4 lf12_5 lf12_6 lf12_7 lf12_8) | ((with_reducible refine gate_store (p := 126) rfl ?_); refine store_event (w1 := ?_) rfl (p := 126) rfl rfl ?hr ?_; rotate_left; (case hr => go_simp; rfl); intro w29 hw_; obtain ⟨hput, HEc⟩ := put1 (cs' := #[.int .i64 wait, .int .i64 again, .int .i64 pause, .int .i64 t, .int .i64 tk, .slice A3 n3 c3, .pointer (some ⟨s, 0, none⟩), .int .i64 0, .int .i64 last, .map (some m)]) hw_ BK_g.out rfl; clear hw_; replace OB_l := Aside0.mk (ks_mv OB_l.out HEc NE_l_g.out); replace KP := Aside0.mk (keeps_set KP.out HEc BK_g.out (.inl rfl)); clear lc11_0 lc11_1 lc11_2 lc11_3 lc11_4 lc11_5 lc11_6 lc11_7 lc11_8 lc11_9 lf11_0 lf11_1 lf11_2 lf11_3 lf11_4 lf11_5 lf11_6 lf11_7 lf11_8 lf11_9 lc12_0 lc12_1 lc12_2 lc12_3 lc12_4 lc12_5 lc12_6 lc12_7 lc12_8 lf12_0 lf12_1 lf12_2 lf12_3 lf12_4 lf12_5 lf12_6 lf12_7 lf12_8; replace BK_s := Aside0.mk (Ext.blk HEc BK_s.out NE_s_g.out); replace MP_m := Aside0.mk (IsMap.ext MP_m.out HEc NE_m_g.out); replace XT := Aside0.mk (XT.out.step HEc (F_g.out)); clear BK_g; have BK_g : Aside0 (w29.heap[g]? = some (.cells #[.int .i64 wait, .int .i64 again, .int .i64 pause, .int .i64 t, .int .i64 tk, .slice A3 n3 c3, .pointer (some ⟨s, 0, none⟩), .int .i64 0, .int .i64 last, .map (some m)] 73 (0, 0))) := ⟨hput⟩; clear hput HEc; refine cl10_ BK_g.out ?_; intro lc13_0 lc13_1 lc13_2 lc13_3 lc13_4 lc13_5 lc13_6 lc13_7 lc13_8 lc13_9 lf13_0 lf13_1 lf13_2 lf13_3 lf13_4 lf13_5 lf13_6 lf13_7 lf13_8 lf13_9; refine cl9_ BK_s.out ?_; intro lc14_0 lc14_1 lc14_2 lc14_3 lc14_4 lc14_5 lc14_6 lc14_7 lc14_8 lf14_0 lf14_1 lf14_2 lf14_3 lf14_4 lf14_5 lf14_6 lf14_7 lf14_8))
  clear lc13_0 lc13_1 lc13_2 lc13_3 lc13_4 lc13_5 lc13_6 lc13_7 lc13_8 lc13_9 lf13_0 lf13_1 lf13_2 lf13_3 lf13_4 lf13_5 lf13_6 lf13_7 lf13_8 lf13_9 lc14_0 lc14_1 lc14_2 lc14_3 lc14_4 lc14_5 lc14_6 lc14_7 lc14_8 lf14_0 lf14_1 lf14_2 lf14_3 lf14_4 lf14_5 lf14_6 lf14_7 lf14_8
  have HIa : Aside0 (IsM B w29 g m ⟨wait, again, pause, t, tk, (pre ++ post), some y, 0, last, rest⟩) := ⟨⟨⟨_, _, BK_g.out, OB_l.out, ⟨s, rfl, BK_s.out, BG_s.out, NE_l_s.out⟩⟩, ⟨_, _, MP_m.out, HF.out⟩⟩⟩
  have HBC : Aside0 (B ≤ w29.heap.size) := ⟨Nat.le_trans HBW.out XT.out.size⟩
  go_wp2_with (first | (go_at_call 32; refine (send_f HIa.out HBC.out (KP.out.row HV1.out) HVL.out).mono ?_; rintro e w30 ⟨A', k', rfl, hkc, hin, HI2, HX, HK⟩; have HKC := Aside0.mk hkc; clear hkc; have HI2 := Aside0.mk HI2; have HX := Aside0.mk HX; have HK := Aside0.mk HK; have HIN := Aside0.mk hin; clear hin) | ((with_reducible refine gate_dst (N := 129) rfl ?_); refine bs_ev (N := 129) ?hg ?hd (cs := #[.int .i64 y.t, .int .i64 y.u, .int .i64 y.f, .int .i64 y.a, .int .i64 y.c, .slice A' y.l k', .int .i64 y.o, .int .i64 y.n, .int .i64 y.r]) (t := 39) (n := 1) ?hr ?_; (case hd => rfl); (case hg => rfl); (case hr => first | (go_simp; done) | (go_simp; rfl)); intro ga hg w31 hbox HBc; have HBOX := Aside0.mk hbox; have HBE := Aside0.mk HBc; clear hbox HBc hg))
  try rw [Exit.noGoto_ret]
  go_ret3
  exact ⟨_, _, rfl, A', k', sent_mk HBOX.out, rfl, HKC.out, irow_below HIN.out HBE.out, HI2.out.below HBE.out, ((HBB.out.trans XT.out).trans (extg HX.out)).trans (Ext.of_below HBE.out), ((HKG.out.trans KP.out).trans HK.out).trans (keeps_below HBE.out)⟩
set_option maxHeartbeats 4000000 in
set_option maxRecDepth 100000 in
theorem step_stay {B : Nat} {w : World} {g m : Nat} {wait again pause now tk times last : Int} {rest : Int → Int} {line : List (SV)} (h : IsM B w g m ⟨wait, again, pause, now, tk, line, none, times, last, rest⟩) (hB : B ≤ w.heap.size) (t : Int) (h0 : 0 ≤ t) (h1 : now ≤ t)  (hs1 : ∀ z ∈ line, t < rest z.u) (hl : line.length ≤ 1000) : Calls Try.prog 12 #[.pointer (some ⟨g, 0, none⟩), .int .i64 t] w fun e w' => ∃ va vd, e = .returned (.tuple #[va, vd, .int .i64 0]) ∧ StepN B w w' g m none ⟨wait, again, pause, t, tk, line, none, times, last, rest⟩ va vd := by
 have H := Aside0.mk h; have HB := Aside0.mk hB; have T0 := Aside0.mk h0; have T1 := Aside0.mk h1
 have HS1 := Aside0.mk hs1; have HLX := Aside0.mk hl; clear hs1 hl
 clear h hB h0 h1
 have hu39 := Try.underlying39; have hu48 := Try.underlying48
 go_enter Try.func12, Try.ntmps12
 go_wp2_with (fail)
 go_step3
 go_upto_region 5 with (go_at_call 31; refine (goon_f H.out HB.out t T0.out T1.out).mono ?_; rintro e w1 ⟨rfl, HI, HXg, HKg⟩; have HI := Aside0.mk HI; have HBB : Aside0 (Ext (Gm g m) w w1) := ⟨extg HXg⟩; have HKG := Aside0.mk HKg; clear HXg HKg)
 clear H
 have HBW : Aside0 (B ≤ w1.heap.size) := ⟨Nat.le_trans HB.out HBB.out.size⟩
 obtain ⟨⟨vl, vo, hb, hl, ho⟩, ⟨f, n, hm, hf⟩⟩ := HI.out
 clear HI
 obtain rfl : vo = .pointer none := ho
 have BK_g : Aside0 (w1.heap[g]? = some (.cells #[.int .i64 wait, .int .i64 again, .int .i64 pause, .int .i64 t, .int .i64 tk, vl, .pointer none, .int .i64 times, .int .i64 last, .map (some m)] 73 (0, 0))) := ⟨hb⟩
 have OB_l : Aside0 (OwnE ks (fun _ => False) 39 B w1 vl (line)) := ⟨hl⟩
 have MP_m := Aside0.mk hm; have HF := Aside0.mk hf
 have NE_l_g : Aside0 (∀ k, (vl).ownBlock = some k → k ≠ g) := ⟨ks_ne hl hb (by decide)⟩; have NE_l_m : Aside0 (∀ k, (vl).ownBlock = some k → k ≠ m) := ⟨ks_nm hl hm⟩; have NE_g_m : Aside0 (g ≠ m) := ⟨cell_nm hb hm⟩; have NE_m_g : Aside0 (m ≠ g) := ⟨fun e => NE_g_m.out e.symm⟩; have F_g : Aside0 (∀ k, k = g → Gm g m k ∨ w1.heap.size ≤ k) := ⟨fun k e => .inl (.inl e)⟩; have F_m : Aside0 (∀ k, k = m → Gm g m k ∨ w1.heap.size ≤ k) := ⟨fun k e => .inl (.inr e)⟩
 clear hb hl hm hf
 obtain ⟨A, nl, c, e, hn, hcap⟩ := row_n OB_l.out
 obtain rfl : vl = (Value.slice A nl c) := e
 have HCAP := Aside0.mk hcap; have HN := Aside0.mk hn; clear hcap hn
 have XT : Aside0 (Ext (Gm g m) w1 w1) := ⟨Ext.refl _ _⟩
 refine cl10_ BK_g.out ?_; intro lc1_0 lc1_1 lc1_2 lc1_3 lc1_4 lc1_5 lc1_6 lc1_7 lc1_8 lc1_9 lf1_0 lf1_1 lf1_2 lf1_3 lf1_4 lf1_5 lf1_6 lf1_7 lf1_8 lf1_9
 have KP : Aside0 (Keeps w1 w1) := ⟨fun _ _ _ h _ _ => h⟩
 clear lc1_0 lc1_1 lc1_2 lc1_3 lc1_4 lc1_5 lc1_6 lc1_7 lc1_8 lc1_9 lf1_0 lf1_1 lf1_2 lf1_3 lf1_4 lf1_5 lf1_6 lf1_7 lf1_8 lf1_9
 refine start_ (n := 18) (S := fun W => W.cell? ⟨g, 6, none⟩ = some (.pointer none) ∧ W.cell? ⟨g, 8, none⟩ = some (.int .i64 last) ∧ W.cell? ⟨g, 0, none⟩ = some (.int .i64 wait)) (ds := []) (fl 18 0) (by kernel_rfl) rfl (by kernel_rfl) ?_ (fun hHeld => ?_)
 ·exact ⟨(blk_cell (bk_ BK_g) 6).trans rfl, (blk_cell (bk_ BK_g) 8).trans rfl, (blk_cell (bk_ BK_g) 0).trans rfl⟩
 refine pu_ 0 17 (fl 18 1) rfl rfl (by kernel_rfl) ?_
 refine pu_ 1 18 (fl 18 3) rfl rfl (by kernel_rfl) ?_
 refine pu_ 2 19 (fl 18 7) rfl rfl (by kernel_rfl) ?_
 refine tk_ 3 20 (fl 18 15) rfl rfl (by kernel_rfl) hHeld ?_
 refine pu_ 4 21 (fl 18 31) rfl rfl (by kernel_rfl) ?_
 refine pu_ 5 22 (fl 18 63) rfl rfl (by kernel_rfl) ?_
 refine pure_ (i := 6) (N := some 23) (v := undef) (a' := ?_) (fl 18 127) rfl rfl (by kernel_rfl) (fun _ _ _ h => h) (Or.inr ⟨by rfl, rfl⟩) ?_ ?_
 rotate_left
 ·simp only [Act.put, List.setIfInBounds_toArray, List.set_cons_zero, List.set_cons_succ, i64_w, i32_w]
  rfl
 refine pure_ (i := 7) (N := some 24) (v := undef) (a' := ?_) (fl 18 255) rfl rfl (by kernel_rfl) (fun _ _ _ h => h) (Or.inr ⟨by rfl, rfl⟩) ?_ ?_
 rotate_left
 ·simp only [Act.put, List.setIfInBounds_toArray, List.set_cons_zero, List.set_cons_succ, i64_w, i32_w]
  rfl
 refine pure_ (i := 8) (N := some 25) (v := undef) (a' := ?_) (fl 18 511) rfl rfl (by kernel_rfl) (fun _ _ _ h => h) (Or.inr ⟨by rfl, rfl⟩) ?_ ?_
 rotate_left
 ·simp only [Act.put, List.setIfInBounds_toArray, List.set_cons_zero, List.set_cons_succ, i64_w, i32_w]
  rfl
 refine pure_ (i := 9) (N := some 26) (v := undef) (a' := ?_) (fl 18 1023) rfl rfl (by kernel_rfl) (fun _ _ _ h => h) (Or.inr ⟨by rfl, rfl⟩) ?_ ?_
 rotate_left
 ·simp only [Act.put, List.setIfInBounds_toArray, List.set_cons_zero, List.set_cons_succ, i64_w, i32_w]
  rfl
 refine pure_ (i := 10) (N := some 27) (v := undef) (a' := ?_) (fl 18 2047) rfl rfl (by kernel_rfl) (fun _ _ _ h => h) (Or.inr ⟨by rfl, rfl⟩) ?_ ?_
 rotate_left
 ·simp only [Act.put, List.setIfInBounds_toArray, List.set_cons_zero, List.set_cons_succ, i64_w, i32_w]
  rfl
 refine pure_ (i := 11) (N := some 28) (v := undef) (a' := ?_) (fl 18 4095) rfl rfl (by kernel_rfl) (fun _ _ _ h => h) (Or.inr ⟨by rfl, rfl⟩) ?_ ?_
 rotate_left
 ·simp only [Act.put, List.setIfInBounds_toArray, List.set_cons_zero, List.set_cons_succ, i64_w, i32_w]
  rfl
 refine pure_ (i := 12) (N := some 29) (v := undef) (a' := ?_) (fl 18 8191) rfl rfl (by kernel_rfl) (fun _ _ _ h => h) (Or.inr ⟨by rfl, rfl⟩) ?_ ?_
 rotate_left
 ·simp only [Act.put, List.setIfInBounds_toArray, List.set_cons_zero, List.set_cons_succ, i64_w, i32_w]
  rfl
 refine pure_ (i := 13) (N := some 30) (v := undef) (a' := ?_) (fl 18 16383) rfl rfl (by kernel_rfl) (fun _ _ _ h => h) (Or.inr ⟨by rfl, rfl⟩) ?_ ?_
 rotate_left
 ·simp only [Act.put, List.setIfInBounds_toArray, List.set_cons_zero, List.set_cons_succ, i64_w, i32_w]
  rfl
 refine pure_ (i := 14) (N := some 31) (v := undef) (a' := ?_) (fl 18 32767) rfl rfl (by kernel_rfl) (fun _ _ _ h => h) (Or.inr ⟨by rfl, rfl⟩) ?_ ?_
 rotate_left
 ·simp only [Act.put, List.setIfInBounds_toArray, List.set_cons_zero, List.set_cons_succ, i64_w, i32_w]
  rfl
 refine pure_ (i := 15) (N := some 32) (v := undef) (a' := ?_) (fl 18 65535) rfl rfl (by kernel_rfl) (fun _ _ _ h => h) (Or.inr ⟨by rfl, rfl⟩) ?_ ?_
 rotate_left
 ·simp only [Act.put, List.setIfInBounds_toArray, List.set_cons_zero, List.set_cons_succ, i64_w, i32_w]
  rfl
 refine pure_ (i := 16) (N := some 33) (v := undef) (a' := ?_) (fl 18 131071) rfl rfl (by kernel_rfl) (fun _ _ _ h => h) (Or.inr ⟨by rfl, rfl⟩) ?_ ?_
 rotate_left
 ·simp only [Act.put, List.setIfInBounds_toArray, List.set_cons_zero, List.set_cons_succ, i64_w, i32_w]
  rfl
 refine pu_ 17 34 (fl 18 262143) rfl rfl (by kernel_rfl) ?_
 refine done_ (by kernel_rfl) ?_
 generalize hwd : World.drew w1 = w2
 have HBc : Below w1.heap.size w1 w2 := (by rw [← hwd]; exact below_drew (Below.refl _ _))
 clear hwd
 replace OB_l := Aside0.mk (ks_mv OB_l.out (Ext.none_ HBc) (fun _ _ e => e))
 replace KP := Aside0.mk (keeps_then KP.out HBc)
 replace BK_g := Aside0.mk (Ext.blk (Ext.none_ HBc) BK_g.out (fun e => e))
 replace MP_m := Aside0.mk (IsMap.ext MP_m.out (Ext.none_ HBc) (fun e => e))
 replace XT := Aside0.mk (XT.out.stepB HBc)
 clear HBc
 refine cl10_ BK_g.out ?_; intro lc2_0 lc2_1 lc2_2 lc2_3 lc2_4 lc2_5 lc2_6 lc2_7 lc2_8 lc2_9 lf2_0 lf2_1 lf2_2 lf2_3 lf2_4 lf2_5 lf2_6 lf2_7 lf2_8 lf2_9
 go_wp2_with (fail)
 go_step3
 clear lc2_0 lc2_1 lc2_2 lc2_3 lc2_4 lc2_5 lc2_6 lc2_7 lc2_8 lc2_9 lf2_0 lf2_1 lf2_2 lf2_3 lf2_4 lf2_5 lf2_6 lf2_7 lf2_8 lf2_9
 refine cl10_ BK_g.out ?_; intro lc3_0 lc3_1 lc3_2 lc3_3 lc3_4 lc3_5 lc3_6 lc3_7 lc3_8 lc3_9 lf3_0 lf3_1 lf3_2 lf3_3 lf3_4 lf3_5 lf3_6 lf3_7 lf3_8 lf3_9
 go_wp2_with (fail)
 go_loopw [89] (fun v wr => ∃ i : Nat, v = .int .i64 (i : Int) ∧ i ≤ nl ∧ Aside0 (wr.heap[g]? = some (.cells #[.int .i64 wait, .int .i64 again, .int .i64 pause, .int .i64 t, .int .i64 tk, .slice A nl c, .pointer none, .int .i64 times, .int .i64 last, .map (some m)] 73 (0, 0))) ∧ Aside0 (IsMap wr m (f) (n)) ∧ Aside0 (Ext (Gm g m) w1 wr) ∧ Aside0 (OwnE ks (fun _ => False) 39 B wr (Value.slice A nl c) (line)) ∧ Aside0 (Keeps w1 wr)) (fun v _ => nl + 1 - (intOf v).toNat)
 case atStart => exact ⟨0, rfl, Nat.zero_le _, BK_g, MP_m, XT, OB_l, KP⟩
 case round =>
  clear BK_g MP_m XT OB_l KP lc3_0 lc3_1 lc3_2 lc3_3 lc3_4 lc3_5 lc3_6 lc3_7 lc3_8 lc3_9 lf3_0 lf3_1 lf3_2 lf3_3 lf3_4 lf3_5 lf3_6 lf3_7 lf3_8 lf3_9
  obtain ⟨i, rfl, hle, BK_g, MP_m, XT, OB_l, KP⟩ := hrel
  by_cases hlt : i < nl
  ·have HLT := Aside0.mk hlt
   have hin := hlt
   have HIN_ := Aside0.mk hin
   obtain ⟨z, hzm, hz⟩ := get_in (l := line) (i := i) (by rw [HN.out]; exact hlt)
   obtain ⟨ad, ead, hat⟩ := row_i OB_l.out hz; subst ead
   have hsz := HS1.out z hzm
   refine cl10_ BK_g.out ?_; intro lc4_0 lc4_1 lc4_2 lc4_3 lc4_4 lc4_5 lc4_6 lc4_7 lc4_8 lc4_9 lf4_0 lf4_1 lf4_2 lf4_3 lf4_4 lf4_5 lf4_6 lf4_7 lf4_8 lf4_9
   have c0 : decide ((i : Int) < (nl : Int)) = true := decide_eq_true (by omega); have c0n : decide (i < nl) = true := decide_eq_true hin
   obtain ⟨rv, hrv⟩ : ∃ r : Int, r = rest z.u := ⟨_, rfl⟩
   rw [← hrv] at hsz
   have q7 : decide (t < rv) = true := decide_eq_true hsz
   have HRV := Aside0.mk hrv; clear hrv hsz hzm hz
   unfold At at hat
   obtain ⟨lr0, lr1, lr2, lr3, lr4, lr5, lr6, lr7, lr8⟩ := hat
   go_upto_region 16 with (first | ((with_reducible refine gate_dst (N := 10) rfl ?_); refine bx_ (N := 10) (cs := #[.int .i64 0, .int .i64 0, .int .i64 0, .int .i64 0, .int .i64 0, .slice none 0 0, .int .i64 0, .int .i64 0, .int .i64 0]) (t := 39) ?_; intro s hg w3 hbox HBc; have NE_l_s : Aside0 (∀ k, ((Value.slice (some ad) nl c)).ownBlock = some k → k ≠ s) := ⟨fun k hk e => by have := OwnE.lt OB_l.out k hk; omega⟩; have NE_g_s : Aside0 (g ≠ s) := ⟨ne_born (blk_lt BK_g.out) hg⟩; have NE_s_g : Aside0 (s ≠ g) := ⟨fun e => NE_g_s.out e.symm⟩; have NE_m_s : Aside0 (m ≠ s) := ⟨ne_born (IsMap.lt MP_m.out) hg⟩; have NE_s_m : Aside0 (s ≠ m) := ⟨fun e => NE_m_s.out e.symm⟩; have F_s : Aside0 (∀ k, k = s → (Gm g m) k ∨ w1.heap.size ≤ k) := ⟨fnew hg XT.out.size⟩; have RG_s : Aside0 (w1.heap.size ≤ s) := ⟨Nat.le_trans XT.out.size (Nat.le_of_eq hg.symm)⟩; have BG_s : Aside0 (B ≤ s) := ⟨Nat.le_trans HBW.out RG_s.out⟩; clear hg; replace OB_l := Aside0.mk (ks_mv OB_l.out (Ext.none_ HBc) (fun _ _ e => e)); replace KP := Aside0.mk (keeps_then KP.out HBc); clear lc4_0 lc4_1 lc4_2 lc4_3 lc4_4 lc4_5 lc4_6 lc4_7 lc4_8 lc4_9 lf4_0 lf4_1 lf4_2 lf4_3 lf4_4 lf4_5 lf4_6 lf4_7 lf4_8 lf4_9; replace BK_g := Aside0.mk (Ext.blk (Ext.none_ HBc) BK_g.out (fun e => e)); replace MP_m := Aside0.mk (IsMap.ext MP_m.out (Ext.none_ HBc) (fun e => e)); replace XT := Aside0.mk (XT.out.stepB HBc); have BK_s : Aside0 (w3.heap[s]? = some (.cells #[.int .i64 0, .int .i64 0, .int .i64 0, .int .i64 0, .int .i64 0, .slice none 0 0, .int .i64 0, .int .i64 0, .int .i64 0] 39 (0, 0))) := ⟨hbox⟩; clear hbox HBc; refine cl10_ BK_g.out ?_; intro lc5_0 lc5_1 lc5_2 lc5_3 lc5_4 lc5_5 lc5_6 lc5_7 lc5_8 lc5_9 lf5_0 lf5_1 lf5_2 lf5_3 lf5_4 lf5_5 lf5_6 lf5_7 lf5_8 lf5_9; refine cl9_ BK_s.out ?_; intro lc6_0 lc6_1 lc6_2 lc6_3 lc6_4 lc6_5 lc6_6 lc6_7 lc6_8 lf6_0 lf6_1 lf6_2 lf6_3 lf6_4 lf6_5 lf6_6 lf6_7 lf6_8) | ((with_reducible refine gate_store (p := 10) rfl ?_); refine store_event (w1 := ?_) rfl (p := 10) rfl rfl ?hr ?_; rotate_left; (case hr => go_simp; rfl); intro w4 hw_; have hput : w4.heap[s]? = some (.cells #[.int .i64 z.t, .int .i64 z.u, .int .i64 z.f, .int .i64 z.a, .int .i64 z.c, .slice z.A z.l z.k, .int .i64 z.o, .int .i64 z.n, .int .i64 z.r] 39 (0, 0)) := (by rw [hw_]; refine blk_put (cs := #[.int .i64 z.t, .int .i64 z.u, .int .i64 z.f, .int .i64 z.a, .int .i64 z.c, .slice z.A z.l z.k, .int .i64 z.o, .int .i64 z.n, .int .i64 0]) ?_ 8 _ rfl; refine blk_put (cs := #[.int .i64 z.t, .int .i64 z.u, .int .i64 z.f, .int .i64 z.a, .int .i64 z.c, .slice z.A z.l z.k, .int .i64 z.o, .int .i64 0, .int .i64 0]) ?_ 7 _ rfl; refine blk_put (cs := #[.int .i64 z.t, .int .i64 z.u, .int .i64 z.f, .int .i64 z.a, .int .i64 z.c, .slice z.A z.l z.k, .int .i64 0, .int .i64 0, .int .i64 0]) ?_ 6 _ rfl; refine blk_put (cs := #[.int .i64 z.t, .int .i64 z.u, .int .i64 z.f, .int .i64 z.a, .int .i64 z.c, .slice none 0 0, .int .i64 0, .int .i64 0, .int .i64 0]) ?_ 5 _ rfl; refine blk_put (cs := #[.int .i64 z.t, .int .i64 z.u, .int .i64 z.f, .int .i64 z.a, .int .i64 0, .slice none 0 0, .int .i64 0, .int .i64 0, .int .i64 0]) ?_ 4 _ rfl; refine blk_put (cs := #[.int .i64 z.t, .int .i64 z.u, .int .i64 z.f, .int .i64 0, .int .i64 0, .slice none 0 0, .int .i64 0, .int .i64 0, .int .i64 0]) ?_ 3 _ rfl; refine blk_put (cs := #[.int .i64 z.t, .int .i64 z.u, .int .i64 0, .int .i64 0, .int .i64 0, .slice none 0 0, .int .i64 0, .int .i64 0, .int .i64 0]) ?_ 2 _ rfl; refine blk_put (cs := #[.int .i64 z.t, .int .i64 0, .int .i64 0, .int .i64 0, .int .i64 0, .slice none 0 0, .int .i64 0, .int .i64 0, .int .i64 0]) ?_ 1 _ rfl; refine blk_put (cs := #[.int .i64 0, .int .i64 0, .int .i64 0, .int .i64 0, .int .i64 0, .slice none 0 0, .int .i64 0, .int .i64 0, .int .i64 0]) ?_ 0 _ rfl; exact BK_s.out); have HEc : Ext (fun k => k = s) w3 w4 := (by rw [hw_]; exact ((((((((((Ext.refl _ _).setg _).setg _).setg _).setg _).setg _).setg _).setg _).setg _).setg _)); clear hw_; replace OB_l := Aside0.mk (ks_mv OB_l.out HEc NE_l_s.out); replace KP := Aside0.mk (keeps_set KP.out HEc BK_s.out (.inr (.inl rfl))); clear lc5_0 lc5_1 lc5_2 lc5_3 lc5_4 lc5_5 lc5_6 lc5_7 lc5_8 lc5_9 lf5_0 lf5_1 lf5_2 lf5_3 lf5_4 lf5_5 lf5_6 lf5_7 lf5_8 lf5_9 lc6_0 lc6_1 lc6_2 lc6_3 lc6_4 lc6_5 lc6_6 lc6_7 lc6_8 lf6_0 lf6_1 lf6_2 lf6_3 lf6_4 lf6_5 lf6_6 lf6_7 lf6_8; replace BK_g := Aside0.mk (Ext.blk HEc BK_g.out NE_g_s.out); replace MP_m := Aside0.mk (IsMap.ext MP_m.out HEc NE_m_s.out); replace XT := Aside0.mk (XT.out.step HEc (F_s.out)); clear BK_s; have BK_s : Aside0 (w4.heap[s]? = some (.cells #[.int .i64 z.t, .int .i64 z.u, .int .i64 z.f, .int .i64 z.a, .int .i64 z.c, .slice z.A z.l z.k, .int .i64 z.o, .int .i64 z.n, .int .i64 z.r] 39 (0, 0))) := ⟨hput⟩; clear hput HEc; refine cl10_ BK_g.out ?_; intro lc7_0 lc7_1 lc7_2 lc7_3 lc7_4 lc7_5 lc7_6 lc7_7 lc7_8 lc7_9 lf7_0 lf7_1 lf7_2 lf7_3 lf7_4 lf7_5 lf7_6 lf7_7 lf7_8 lf7_9; refine cl9_ BK_s.out ?_; intro lc8_0 lc8_1 lc8_2 lc8_3 lc8_4 lc8_5 lc8_6 lc8_7 lc8_8 lf8_0 lf8_1 lf8_2 lf8_3 lf8_4 lf8_5 lf8_6 lf8_7 lf8_8))
   clear lr0 lr1 lr2 lr3 lr4 lr5 lr6 lr7 lr8
   clear lc7_0 lc7_1 lc7_2 lc7_3 lc7_4 lc7_5 lc7_6 lc7_7 lc7_8 lc7_9 lf7_0 lf7_1 lf7_2 lf7_3 lf7_4 lf7_5 lf7_6 lf7_7 lf7_8 lf7_9 lc8_0 lc8_1 lc8_2 lc8_3 lc8_4 lc8_5 lc8_6 lc8_7 lc8_8 lf8_0 lf8_1 lf8_2 lf8_3 lf8_4 lf8_5 lf8_6 lf8_7 lf8_8
   refine start_ (n := 9) (S := fun W => W.cell? ⟨g, 9, none⟩ = some (.map (some m)) ∧ W.cell? ⟨s, 1, none⟩ = some (.int .i64 z.u)) (ds := []) (fl 9 0) (by kernel_rfl) rfl (by kernel_rfl) ?_ (fun hHeld => ?_)
   ·exact ⟨(blk_cell (bk_ BK_g) 9).trans rfl, (blk_cell (bk_ BK_s) 1).trans rfl⟩
   refine pu_ 0 94 (fl 9 1) rfl rfl (by kernel_rfl) ?_
   refine pu_ 1 95 (fl 9 3) rfl rfl (by kernel_rfl) ?_
   refine pu_ 2 96 (fl 9 7) rfl rfl (by kernel_rfl) ?_
   refine tk_ 3 97 (fl 9 15) rfl rfl (by kernel_rfl) hHeld ?_
   refine pu_ 4 98 (fl 9 31) rfl rfl (by kernel_rfl) ?_
   refine tk_ 5 99 (fl 9 63) rfl rfl (by kernel_rfl) hHeld ?_
   refine pu_ 7 101 (fl 9 191) rfl rfl (by kernel_rfl) ?_
   refine one_ (i := 6) (N := some 100) (fl 9 255) rfl rfl (by kernel_rfl) (by decide) (fun K hK => ?_)
   refine look_step (k := z.u) (v := .int .i64 rv) (by rfl) rfl rfl (MP_m.out.ext (Ext.none_ (by repeat (first | exact Below.refl _ _ | apply pw_below_drewN | apply below_drew1))) (fun e => e)) Try.underlying70 Try.underlying3 zeroI ?hx ?hy ((HF.out z.u).trans (congrArg (Value.int .i64) HRV.out.symm)) ?_
   case hx => rfl
   case hy => rfl
   refine hK.out _ _ ?_ (fun hHeld => ?_)
   ·exact ⟨(blk_cell (bk_ BK_g) 9).trans rfl, (blk_cell (bk_ BK_s) 1).trans rfl⟩
   clear hK K
   refine norm_ (a' := ?_) ?_ ?_
   rotate_left
   ·show Act.put _ (some 100) _ = _
    simp only [Act.put, List.setIfInBounds_toArray, List.set_cons_zero, List.set_cons_succ, i64_w, i32_w]
    rfl
   refine pu_ 8 102 (fl 9 511) rfl rfl (by kernel_rfl) ?_
   refine done_ (by kernel_rfl) ?_
   generalize hwd : World.drew w4 = w5
   have HBc : Below w4.heap.size w4 w5 := (by rw [← hwd]; exact below_drew (Below.refl _ _))
   clear hwd
   replace OB_l := Aside0.mk (ks_mv OB_l.out (Ext.none_ HBc) (fun _ _ e => e))
   replace KP := Aside0.mk (keeps_then KP.out HBc)
   replace BK_g := Aside0.mk (Ext.blk (Ext.none_ HBc) BK_g.out (fun e => e))
   replace BK_s := Aside0.mk (Ext.blk (Ext.none_ HBc) BK_s.out (fun e => e))
   replace MP_m := Aside0.mk (IsMap.ext MP_m.out (Ext.none_ HBc) (fun e => e))
   replace XT := Aside0.mk (XT.out.stepB HBc)
   clear HBc
   refine cl10_ BK_g.out ?_; intro lc9_0 lc9_1 lc9_2 lc9_3 lc9_4 lc9_5 lc9_6 lc9_7 lc9_8 lc9_9 lf9_0 lf9_1 lf9_2 lf9_3 lf9_4 lf9_5 lf9_6 lf9_7 lf9_8 lf9_9
   refine cl9_ BK_s.out ?_; intro lc10_0 lc10_1 lc10_2 lc10_3 lc10_4 lc10_5 lc10_6 lc10_7 lc10_8 lf10_0 lf10_1 lf10_2 lf10_3 lf10_4 lf10_5 lf10_6 lf10_7 lf10_8
   have hw1 : wrap64 ((i : Int) + 1) = (i : Int) + 1 := by have h1 := HIN_.out; have h2 := HLX.out; have h3 := HN.out; rw [h3] at h2; unfold wrap64; omega
   have HW1 := Aside0.mk hw1
   go_wp2
   go_roundw
   case rel => exact ⟨i + 1, congrArg (Value.int .i64) (by first | rfl | exact HW1.out | (rw [HW1.out]; rfl)), HLT.out, BK_g, MP_m, XT, OB_l, KP⟩
   case measure => first | exact meas HIN_.out | exact measw HW1.out HIN_.out
  have hie : i = nl := by omega
  clear hle hlt
  subst hie
  have c0 : decide ((i : Int) < (i : Int)) = false := by simp
  refine cl10_ BK_g.out ?_; intro lc4_0 lc4_1 lc4_2 lc4_3 lc4_4 lc4_5 lc4_6 lc4_7 lc4_8 lc4_9 lf4_0 lf4_1 lf4_2 lf4_3 lf4_4 lf4_5 lf4_6 lf4_7 lf4_8 lf4_9
  go_wp2
  try rw [Exit.noGoto_ret]
  go_ret3
  exact ⟨_, _, rfl, rfl, rfl, ⟨⟨_, _, BK_g.out, OB_l.out, rfl⟩, ⟨_, _, MP_m.out, HF.out⟩⟩, HBB.out.trans XT.out, HKG.out.trans KP.out⟩
theorem step_send {B : Nat} {w : World} {g m : Nat} {wait again pause now tk times last : Int} {rest : Int → Int} {y : SV} {xs : List (SV)} (h : IsM B w g m ⟨wait, again, pause, now, tk, (y :: xs), none, times, last, rest⟩) (hB : B ≤ w.heap.size) (t : Int) (h0 : 0 ≤ t) (h1 : now ≤ t) (hs : rest y.u ≤ t) (hl : xs.length ≤ 900) {vs : List Int} (hV : IRow w y.A y.l vs) (hvl : y.l ≤ 100000) : Calls Try.prog 12 #[.pointer (some ⟨g, 0, none⟩), .int .i64 t] w fun e w' => ∃ va vd, e = .returned (.tuple #[va, vd, .int .i64 0]) ∧ StepS B w w' g m y vs none ⟨wait, again, pause, t, tk, xs, some y, wrap64 (0 + 1), t, rest⟩ va vd :=
 step_go (pre := []) (post := xs) h hB t h0 h1 (fun z hz => absurd hz (by simp)) hs (by simp; omega) hV hvl
end Go.Proofs.Ytlalpooiegganaa.MsgE
end

section
namespace Go.Proofs.Ytlalpooiegganaa.MsgE
open Go.RowKit Go.Proofs.YtlalpooiegganaaW.PrintWords Go.Proofs.YtlalpooiegganaaW.PrintLast Go.Proofs.YtlalpooiegganaaW.PrintMore Go.Proofs.Ytlalpooiegganaa.Core Go.Proofs.Ytlalpooiegganaa.Wk Go.Proofs.Ytlalpooiegganaa.PMasterWaits Go.Proofs.Ytlalpooiegganaa.Msg Go.Proofs.Ytlalpooiegganaa.MsgB Go.Proofs.Ytlalpooiegganaa.MsgC Go.Proofs.Ytlalpooiegganaa.MsgD
set_option linter.unusedVariables false
set_option linter.unusedSimpArgs false
set_option maxHeartbeats 4000000 in
set_option maxRecDepth 100000 in
theorem step_late_go {B : Nat} {w : World} {g m : Nat} {wait again pause now tk times last : Int} {rest : Int → Int} {y : SV} {pre post : List (SV)} {x : SV} (h : IsM B w g m ⟨wait, again, pause, now, tk, (pre ++ y :: post), some x, times, last, rest⟩) (hB : B ≤ w.heap.size) (t : Int) (h0 : 0 ≤ t) (h1 : now ≤ t) (hq : wait ≤ wrap64 (t - last)) (hr : again < times) (hs1 : ∀ z ∈ pre, t < (if z.u = x.u then wrap64 (t + pause) else rest z.u)) (hs : (if y.u = x.u then wrap64 (t + pause) else rest y.u) ≤ t) (hl : (pre ++ y :: post).length ≤ 1000) {vs : List Int} (hV : IRow w y.A y.l vs) (hvl : y.l ≤ 100000) : Calls Try.prog 12 #[.pointer (some ⟨g, 0, none⟩), .int .i64 t] w fun e w' => ∃ va vd, e = .returned (.tuple #[va, vd, .int .i64 0]) ∧ StepS B w w' g m y vs (some x.t) ⟨wait, again, pause, t, tk, (pre ++ post), some y, wrap64 (0 + 1), t, (fun k => if k = x.u then wrap64 (t + pause) else rest k)⟩ va vd := by
 have H := Aside0.mk h; have HB := Aside0.mk hB; have T0 := Aside0.mk h0; have T1 := Aside0.mk h1
 have HV := Aside0.mk hV; have HVL := Aside0.mk hvl; clear hV hvl
 have q5 : decide (wait ≤ wrap64 (t - last)) = true := decide_eq_true hq
 have q6 : decide (times ≤ again) = false := decide_eq_false (by omega)
 have HS1 := Aside0.mk hs1; have HLX := Aside0.mk hl; clear hs1 hl
 obtain ⟨np, hnp⟩ : ∃ np, pre.length = np := ⟨_, rfl⟩; have HNP := Aside0.mk hnp; obtain ⟨nq, hnq⟩ : ∃ nq, post.length = nq := ⟨_, rfl⟩; have HNQ := Aside0.mk hnq; have HS2 := Aside0.mk hs; clear hnp hnq hs
 clear h hB h0 h1 hq hr
 have hu39 := Try.underlying39; have hu48 := Try.underlying48
 go_enter Try.func12, Try.ntmps12
 go_wp2_with (fail)
 go_step3
 go_upto_region 5 with (go_at_call 31; go_must (refine (goon_f H.out HB.out t T0.out T1.out).mono ?_; rintro e w1 ⟨rfl, HI, HXg, HKg⟩; have HI := Aside0.mk HI; have HBB : Aside0 (Ext (Gm g m) w w1) := ⟨extg HXg⟩; have HKG := Aside0.mk HKg; clear HXg HKg))
 clear H
 have HBW : Aside0 (B ≤ w1.heap.size) := ⟨Nat.le_trans HB.out HBB.out.size⟩
 obtain ⟨⟨vl, vo, hb, hl, ho⟩, ⟨f, n, hm, hf⟩⟩ := HI.out
 clear HI
 obtain ⟨go, rfl, hgo, bgo, nlo⟩ := ho
 have BK_g : Aside0 (w1.heap[g]? = some (.cells #[.int .i64 wait, .int .i64 again, .int .i64 pause, .int .i64 t, .int .i64 tk, vl, .pointer (some ⟨go, 0, none⟩), .int .i64 times, .int .i64 last, .map (some m)] 73 (0, 0))) := ⟨hb⟩
 have OB_l : Aside0 (OwnE ks (fun _ => False) 39 B w1 vl (pre ++ y :: post)) := ⟨hl⟩
 have MP_m := Aside0.mk hm; have HF := Aside0.mk hf
 have NE_l_g : Aside0 (∀ k, (vl).ownBlock = some k → k ≠ g) := ⟨ks_ne hl hb (by decide)⟩; have NE_l_m : Aside0 (∀ k, (vl).ownBlock = some k → k ≠ m) := ⟨ks_nm hl hm⟩; have NE_g_m : Aside0 (g ≠ m) := ⟨cell_nm hb hm⟩; have NE_m_g : Aside0 (m ≠ g) := ⟨fun e => NE_g_m.out e.symm⟩; have F_g : Aside0 (∀ k, k = g → Gm g m k ∨ w1.heap.size ≤ k) := ⟨fun k e => .inl (.inl e)⟩; have F_m : Aside0 (∀ k, k = m → Gm g m k ∨ w1.heap.size ≤ k) := ⟨fun k e => .inl (.inr e)⟩
 have BK_go : Aside0 (w1.heap[go]? = some (.cells #[.int .i64 x.t, .int .i64 x.u, .int .i64 x.f, .int .i64 x.a, .int .i64 x.c, .slice x.A x.l x.k, .int .i64 x.o, .int .i64 x.n, .int .i64 x.r] 39 (0, 0))) := ⟨hgo⟩; have BGO := Aside0.mk bgo; have NE_l_go : Aside0 (∀ k, (vl).ownBlock = some k → k ≠ go) := ⟨nlo⟩; have NE_go_g : Aside0 (go ≠ g) := ⟨blk_ne hgo hb (by decide)⟩; have NE_g_go : Aside0 (g ≠ go) := ⟨fun e => NE_go_g.out e.symm⟩; have NE_go_m : Aside0 (go ≠ m) := ⟨cell_nm hgo hm⟩; have NE_m_go : Aside0 (m ≠ go) := ⟨fun e => NE_go_m.out e.symm⟩; clear hgo bgo nlo
 clear hb hl hm hf
 obtain ⟨A, nl, c, e, hn, hcap⟩ := row_n OB_l.out
 obtain rfl : vl = (Value.slice A nl c) := e
 have HCAP := Aside0.mk hcap; have HN := Aside0.mk hn; clear hcap hn
 obtain ⟨ad, ead, _⟩ := row_i OB_l.out (get_mid HNP.out)
 subst ead
 have XT : Aside0 (Ext (Gm g m) w1 w1) := ⟨Ext.refl _ _⟩
 refine cl10_ BK_g.out ?_; intro lc1_0 lc1_1 lc1_2 lc1_3 lc1_4 lc1_5 lc1_6 lc1_7 lc1_8 lc1_9 lf1_0 lf1_1 lf1_2 lf1_3 lf1_4 lf1_5 lf1_6 lf1_7 lf1_8 lf1_9
 refine cl9_ BK_go.out ?_; intro lc2_0 lc2_1 lc2_2 lc2_3 lc2_4 lc2_5 lc2_6 lc2_7 lc2_8 lf2_0 lf2_1 lf2_2 lf2_3 lf2_4 lf2_5 lf2_6 lf2_7 lf2_8
 have KP : Aside0 (Keeps w1 w1) := ⟨fun _ _ _ h _ _ => h⟩
 have HV1 : Aside0 (IRow w1 y.A y.l vs) := ⟨HKG.out.row HV.out⟩
 clear lc1_0 lc1_1 lc1_2 lc1_3 lc1_4 lc1_5 lc1_6 lc1_7 lc1_8 lc1_9 lf1_0 lf1_1 lf1_2 lf1_3 lf1_4 lf1_5 lf1_6 lf1_7 lf1_8 lf1_9 lc2_0 lc2_1 lc2_2 lc2_3 lc2_4 lc2_5 lc2_6 lc2_7 lc2_8 lf2_0 lf2_1 lf2_2 lf2_3 lf2_4 lf2_5 lf2_6 lf2_7 lf2_8
 refine start_ (n := 18) (S := fun W => W.cell? ⟨g, 6, none⟩ = some (.pointer (some ⟨go, 0, none⟩)) ∧ W.cell? ⟨g, 8, none⟩ = some (.int .i64 last) ∧ W.cell? ⟨g, 0, none⟩ = some (.int .i64 wait)) (ds := []) (fl 18 0) (by kernel_rfl) rfl (by kernel_rfl) ?_ (fun hHeld => ?_)
 ·exact ⟨(blk_cell (bk_ BK_g) 6).trans rfl, (blk_cell (bk_ BK_g) 8).trans rfl, (blk_cell (bk_ BK_g) 0).trans rfl⟩
 refine pu_ 0 17 (fl 18 1) rfl rfl (by kernel_rfl) ?_
 refine pu_ 1 18 (fl 18 3) rfl rfl (by kernel_rfl) ?_
 refine pu_ 2 19 (fl 18 7) rfl rfl (by kernel_rfl) ?_
 refine tk_ 3 20 (fl 18 15) rfl rfl (by kernel_rfl) hHeld ?_
 refine pu_ 4 21 (fl 18 31) rfl rfl (by kernel_rfl) ?_
 refine pu_ 5 22 (fl 18 63) rfl rfl (by kernel_rfl) ?_
 refine pu_ 6 23 (fl 18 127) rfl rfl (by kernel_rfl) ?_
 refine pu_ 7 24 (fl 18 255) rfl rfl (by kernel_rfl) ?_
 refine pu_ 8 25 (fl 18 511) rfl rfl (by kernel_rfl) ?_
 refine pu_ 9 26 (fl 18 1023) rfl rfl (by kernel_rfl) ?_
 refine tk_ 10 27 (fl 18 2047) rfl rfl (by kernel_rfl) hHeld ?_
 refine pu_ 11 28 (fl 18 4095) rfl rfl (by kernel_rfl) ?_
 refine pu_ 12 29 (fl 18 8191) rfl rfl (by kernel_rfl) ?_
 refine pu_ 13 30 (fl 18 16383) rfl rfl (by kernel_rfl) ?_
 refine pu_ 14 31 (fl 18 32767) rfl rfl (by kernel_rfl) ?_
 refine tk_ 15 32 (fl 18 65535) rfl rfl (by kernel_rfl) hHeld ?_
 refine pu_ 16 33 (fl 18 131071) rfl rfl (by kernel_rfl) ?_
 refine pu_ 17 34 (fl 18 262143) rfl rfl (by kernel_rfl) ?_
 refine done_ (by kernel_rfl) ?_
 generalize hwd : World.drew w1 = w2
 have HBc : Below w1.heap.size w1 w2 := (by rw [← hwd]; exact below_drew (Below.refl _ _))
 clear hwd
 replace OB_l := Aside0.mk (ks_mv OB_l.out (Ext.none_ HBc) (fun _ _ e => e))
 replace KP := Aside0.mk (keeps_then KP.out HBc)
 replace BK_g := Aside0.mk (Ext.blk (Ext.none_ HBc) BK_g.out (fun e => e))
 replace BK_go := Aside0.mk (Ext.blk (Ext.none_ HBc) BK_go.out (fun e => e))
 replace MP_m := Aside0.mk (IsMap.ext MP_m.out (Ext.none_ HBc) (fun e => e))
 replace XT := Aside0.mk (XT.out.stepB HBc)
 clear HBc
 refine cl10_ BK_g.out ?_; intro lc3_0 lc3_1 lc3_2 lc3_3 lc3_4 lc3_5 lc3_6 lc3_7 lc3_8 lc3_9 lf3_0 lf3_1 lf3_2 lf3_3 lf3_4 lf3_5 lf3_6 lf3_7 lf3_8 lf3_9
 refine cl9_ BK_go.out ?_; intro lc4_0 lc4_1 lc4_2 lc4_3 lc4_4 lc4_5 lc4_6 lc4_7 lc4_8 lf4_0 lf4_1 lf4_2 lf4_3 lf4_4 lf4_5 lf4_6 lf4_7 lf4_8
 go_upto_region 6 with (fail)
 clear lc3_0 lc3_1 lc3_2 lc3_3 lc3_4 lc3_5 lc3_6 lc3_7 lc3_8 lc3_9 lf3_0 lf3_1 lf3_2 lf3_3 lf3_4 lf3_5 lf3_6 lf3_7 lf3_8 lf3_9 lc4_0 lc4_1 lc4_2 lc4_3 lc4_4 lc4_5 lc4_6 lc4_7 lc4_8 lf4_0 lf4_1 lf4_2 lf4_3 lf4_4 lf4_5 lf4_6 lf4_7 lf4_8
 refine start_ (n := 9) (S := fun W => W.cell? ⟨g, 7, none⟩ = some (.int .i64 times) ∧ W.cell? ⟨g, 1, none⟩ = some (.int .i64 again)) (ds := []) (fl 9 0) (by kernel_rfl) rfl (by kernel_rfl) ?_ (fun hHeld => ?_)
 ·exact ⟨(blk_cell (bk_ BK_g) 7).trans rfl, (blk_cell (bk_ BK_g) 1).trans rfl⟩
 refine pu_ 0 35 (fl 9 1) rfl rfl (by kernel_rfl) ?_
 refine pu_ 1 36 (fl 9 3) rfl rfl (by kernel_rfl) ?_
 refine pu_ 2 37 (fl 9 7) rfl rfl (by kernel_rfl) ?_
 refine tk_ 3 38 (fl 9 15) rfl rfl (by kernel_rfl) hHeld ?_
 refine pu_ 4 39 (fl 9 31) rfl rfl (by kernel_rfl) ?_
 refine pu_ 5 40 (fl 9 63) rfl rfl (by kernel_rfl) ?_
 refine pu_ 6 41 (fl 9 127) rfl rfl (by kernel_rfl) ?_
 refine tk_ 7 42 (fl 9 255) rfl rfl (by kernel_rfl) hHeld ?_
 refine pu_ 8 43 (fl 9 511) rfl rfl (by kernel_rfl) ?_
 refine done_ (by kernel_rfl) ?_
 generalize hwd : World.drew w2 = w3
 have HBc : Below w2.heap.size w2 w3 := (by rw [← hwd]; exact below_drew (Below.refl _ _))
 clear hwd
 replace OB_l := Aside0.mk (ks_mv OB_l.out (Ext.none_ HBc) (fun _ _ e => e))
 replace KP := Aside0.mk (keeps_then KP.out HBc)
 replace BK_g := Aside0.mk (Ext.blk (Ext.none_ HBc) BK_g.out (fun e => e))
 replace BK_go := Aside0.mk (Ext.blk (Ext.none_ HBc) BK_go.out (fun e => e))
 replace MP_m := Aside0.mk (IsMap.ext MP_m.out (Ext.none_ HBc) (fun e => e))
 replace XT := Aside0.mk (XT.out.stepB HBc)
 clear HBc
 refine cl10_ BK_g.out ?_; intro lc5_0 lc5_1 lc5_2 lc5_3 lc5_4 lc5_5 lc5_6 lc5_7 lc5_8 lc5_9 lf5_0 lf5_1 lf5_2 lf5_3 lf5_4 lf5_5 lf5_6 lf5_7 lf5_8 lf5_9
 refine cl9_ BK_go.out ?_; intro lc6_0 lc6_1 lc6_2 lc6_3 lc6_4 lc6_5 lc6_6 lc6_7 lc6_8 lf6_0 lf6_1 lf6_2 lf6_3 lf6_4 lf6_5 lf6_6 lf6_7 lf6_8
 go_upto_region 9 with (((with_reducible refine gate_builtin (b := .append) (xs := #[.tmp 47, .tmp 56]) rfl ?_); go_must (refine ev_append kd (M := fun _ => False) (w0 := w3) B rfl (.tmp 47) (.tmp 56) 35 48 (.agg #[.int .i64 0, .slice none 0 0, .int .i64 0, .bool false]) 48 rfl Try.underlying35 info48 rfl (by decide) (by decide) (.slice none 0 0) [] x.t [.int .i64 x.t, .slice none 0 0, .int .i64 0, .bool true] rfl rfl (OwnE.nil _ _ _ _ _) (Ever.triv (p := _ = dc _) rfl) (Below.refl _ _) (Nat.le_trans HBW.out XT.out.size) (by simp) ?_; intro v9 w4 HO9 HB9 hg9 hat9; have HBc : Below w3.heap.size w3 w4 := ⟨hg9.os, hg9.tape, hg9.output, hg9.size, fun i hi => hg9.block i hi (by simp [Value.ownBlock])⟩; replace OB_l := Aside0.mk (ks_mv OB_l.out (Ext.none_ HBc) (fun _ _ e => e)); replace KP := Aside0.mk (keeps_then KP.out HBc); clear lc5_0 lc5_1 lc5_2 lc5_3 lc5_4 lc5_5 lc5_6 lc5_7 lc5_8 lc5_9 lf5_0 lf5_1 lf5_2 lf5_3 lf5_4 lf5_5 lf5_6 lf5_7 lf5_8 lf5_9 lc6_0 lc6_1 lc6_2 lc6_3 lc6_4 lc6_5 lc6_6 lc6_7 lc6_8 lf6_0 lf6_1 lf6_2 lf6_3 lf6_4 lf6_5 lf6_6 lf6_7 lf6_8; replace BK_g := Aside0.mk (Ext.blk (Ext.none_ HBc) BK_g.out (fun e => e)); replace BK_go := Aside0.mk (Ext.blk (Ext.none_ HBc) BK_go.out (fun e => e)); replace MP_m := Aside0.mk (IsMap.ext MP_m.out (Ext.none_ HBc) (fun e => e)); replace XT := Aside0.mk (XT.out.stepB HBc); have OB_d : Aside0 (OwnE kd (fun _ => False) 48 B w4 v9 ([x.t])) := ⟨HO9⟩; have NE_d_g : Aside0 (∀ k, (v9).ownBlock = some k → k ≠ g) := ⟨kd_ne HO9 BK_g.out (by decide)⟩; have NE_d_m : Aside0 (∀ k, (v9).ownBlock = some k → k ≠ m) := ⟨kd_nm HO9 MP_m.out⟩; clear HO9 HB9 hg9 hat9 HBc)))
 refine start_ (n := 18) (S := fun W => W.cell? ⟨g, 9, none⟩ = some (.map (some m)) ∧ W.cell? ⟨g, 6, none⟩ = some (.pointer (some ⟨go, 0, none⟩)) ∧ W.cell? ⟨g, 2, none⟩ = some (.int .i64 pause) ∧ W.cell? ⟨go, 1, none⟩ = some (.int .i64 x.u)) (ds := [17]) (fl 18 0) (by kernel_rfl) rfl (by kernel_rfl) ?_ (fun hHeld => ?_)
 ·exact ⟨(blk_cell (bk_ BK_g) 9).trans rfl, (blk_cell (bk_ BK_g) 6).trans rfl, (blk_cell (bk_ BK_g) 2).trans rfl, (blk_cell (bk_ BK_go) 1).trans rfl⟩
 refine pu_ 0 58 (fl 18 1) rfl rfl (by kernel_rfl) ?_
 refine pu_ 1 59 (fl 18 3) rfl rfl (by kernel_rfl) ?_
 refine pu_ 2 60 (fl 18 7) rfl rfl (by kernel_rfl) ?_
 refine tk_ 3 61 (fl 18 15) rfl rfl (by kernel_rfl) hHeld ?_
 refine pu_ 4 62 (fl 18 31) rfl rfl (by kernel_rfl) ?_
 refine pu_ 5 63 (fl 18 63) rfl rfl (by kernel_rfl) ?_
 refine pu_ 6 64 (fl 18 127) rfl rfl (by kernel_rfl) ?_
 refine tk_ 7 65 (fl 18 255) rfl rfl (by kernel_rfl) hHeld ?_
 refine pu_ 8 66 (fl 18 511) rfl rfl (by kernel_rfl) ?_
 refine pu_ 9 67 (fl 18 1023) rfl rfl (by kernel_rfl) ?_
 refine tk_ 10 68 (fl 18 2047) rfl rfl (by kernel_rfl) hHeld ?_
 refine pu_ 11 69 (fl 18 4095) rfl rfl (by kernel_rfl) ?_
 refine pu_ 12 70 (fl 18 8191) rfl rfl (by kernel_rfl) ?_
 refine pu_ 13 71 (fl 18 16383) rfl rfl (by kernel_rfl) ?_
 refine pu_ 14 72 (fl 18 32767) rfl rfl (by kernel_rfl) ?_
 refine tk_ 15 73 (fl 18 65535) rfl rfl (by kernel_rfl) hHeld ?_
 refine pu_ 16 74 (fl 18 131071) rfl rfl (by kernel_rfl) ?_
 refine last_ (i := 17) (N := none) (fl 18 262143) rfl rfl (by kernel_rfl) (by decide) (fun K hK => ?_)
 refine upd_step (k := x.u) (v := .int .i64 (wrap64 (t + pause))) (by rfl) rfl rfl (MP_m.out.ext (Ext.none_ (by repeat (first | exact Below.refl _ _ | apply pw_below_drewN | apply below_drew1))) (fun e => e)) Try.underlying70 Try.underlying3 ?hx ?hy ?hz ?_
 case hx => rfl
 case hy => rfl
 case hz => rfl
 intro w5 hup HEc0
 have HEc : Ext (fun k => k = m) w4 w5 := (Ext.of_below (by repeat (first | exact Below.refl _ _ | apply pw_below_drewN | apply below_drew1))).trans HEc0
 clear HEc0
 replace OB_l := Aside0.mk (ks_mv OB_l.out HEc NE_l_m.out)
 replace OB_d := Aside0.mk (kd_mv OB_d.out HEc NE_d_m.out)
 replace KP := Aside0.mk (keeps_setm KP.out HEc MP_m.out)
 replace BK_g := Aside0.mk (Ext.blk HEc BK_g.out NE_g_m.out)
 replace BK_go := Aside0.mk (Ext.blk HEc BK_go.out NE_go_m.out)
 replace XT := Aside0.mk (XT.out.step HEc (F_m.out))
 clear MP_m
 have MP_m : Aside0 (IsMap w5 m (fun j => if j = x.u then some (.int .i64 (wrap64 (t + pause))) else f j) (n + 1)) := ⟨hup⟩
 have HFn := Aside0.mk (upd_hf HF.out x.u (wrap64 (t + pause)))
 clear HF hup HEc
 have HF := HFn; clear HFn
 refine hK.out _ _ ?_
 clear hK K
 refine done_ (by kernel_rfl) ?_
 refine cl10_ BK_g.out ?_; intro lc7_0 lc7_1 lc7_2 lc7_3 lc7_4 lc7_5 lc7_6 lc7_7 lc7_8 lc7_9 lf7_0 lf7_1 lf7_2 lf7_3 lf7_4 lf7_5 lf7_6 lf7_7 lf7_8 lf7_9
 refine cl9_ BK_go.out ?_; intro lc8_0 lc8_1 lc8_2 lc8_3 lc8_4 lc8_5 lc8_6 lc8_7 lc8_8 lf8_0 lf8_1 lf8_2 lf8_3 lf8_4 lf8_5 lf8_6 lf8_7 lf8_8
 go_wp2_with (((with_reducible refine gate_store (p := 77) rfl ?_); go_must (refine store_event (w1 := ?_) rfl (p := 77) rfl rfl ?hr ?_; rotate_left; (case hr => go_simp; rfl); intro w6 hw_; obtain ⟨hput, HEc⟩ := put1 (cs' := #[.int .i64 wait, .int .i64 again, .int .i64 pause, .int .i64 t, .int .i64 tk, .slice (some ad) nl c, .pointer none, .int .i64 times, .int .i64 last, .map (some m)]) hw_ BK_g.out rfl; clear hw_; replace OB_l := Aside0.mk (ks_mv OB_l.out HEc NE_l_g.out); replace OB_d := Aside0.mk (kd_mv OB_d.out HEc NE_d_g.out); replace KP := Aside0.mk (keeps_set KP.out HEc BK_g.out (.inl rfl)); clear lc7_0 lc7_1 lc7_2 lc7_3 lc7_4 lc7_5 lc7_6 lc7_7 lc7_8 lc7_9 lf7_0 lf7_1 lf7_2 lf7_3 lf7_4 lf7_5 lf7_6 lf7_7 lf7_8 lf7_9 lc8_0 lc8_1 lc8_2 lc8_3 lc8_4 lc8_5 lc8_6 lc8_7 lc8_8 lf8_0 lf8_1 lf8_2 lf8_3 lf8_4 lf8_5 lf8_6 lf8_7 lf8_8; replace BK_go := Aside0.mk (Ext.blk HEc BK_go.out NE_go_g.out); replace MP_m := Aside0.mk (IsMap.ext MP_m.out HEc NE_m_g.out); replace XT := Aside0.mk (XT.out.step HEc (F_g.out)); clear BK_g; have BK_g : Aside0 (w6.heap[g]? = some (.cells #[.int .i64 wait, .int .i64 again, .int .i64 pause, .int .i64 t, .int .i64 tk, .slice (some ad) nl c, .pointer none, .int .i64 times, .int .i64 last, .map (some m)] 73 (0, 0))) := ⟨hput⟩; clear hput HEc; refine cl10_ BK_g.out ?_; intro lc9_0 lc9_1 lc9_2 lc9_3 lc9_4 lc9_5 lc9_6 lc9_7 lc9_8 lc9_9 lf9_0 lf9_1 lf9_2 lf9_3 lf9_4 lf9_5 lf9_6 lf9_7 lf9_8 lf9_9; refine cl9_ BK_go.out ?_; intro lc10_0 lc10_1 lc10_2 lc10_3 lc10_4 lc10_5 lc10_6 lc10_7 lc10_8 lf10_0 lf10_1 lf10_2 lf10_3 lf10_4 lf10_5 lf10_6 lf10_7 lf10_8)))
 go_step3
 clear lc9_0 lc9_1 lc9_2 lc9_3 lc9_4 lc9_5 lc9_6 lc9_7 lc9_8 lc9_9 lf9_0 lf9_1 lf9_2 lf9_3 lf9_4 lf9_5 lf9_6 lf9_7 lf9_8 lf9_9 lc10_0 lc10_1 lc10_2 lc10_3 lc10_4 lc10_5 lc10_6 lc10_7 lc10_8 lf10_0 lf10_1 lf10_2 lf10_3 lf10_4 lf10_5 lf10_6 lf10_7 lf10_8
 clear BK_go NE_l_go NE_go_g NE_g_go NE_go_m NE_m_go BGO
 refine cl10_ BK_g.out ?_; intro lc11_0 lc11_1 lc11_2 lc11_3 lc11_4 lc11_5 lc11_6 lc11_7 lc11_8 lc11_9 lf11_0 lf11_1 lf11_2 lf11_3 lf11_4 lf11_5 lf11_6 lf11_7 lf11_8 lf11_9
 go_wp2_with (fail)
 go_loopw [89] (fun v wr => ∃ i : Nat, v = .int .i64 (i : Int) ∧ i ≤ np ∧ Aside0 (wr.heap[g]? = some (.cells #[.int .i64 wait, .int .i64 again, .int .i64 pause, .int .i64 t, .int .i64 tk, .slice (some ad) nl c, .pointer none, .int .i64 times, .int .i64 last, .map (some m)] 73 (0, 0))) ∧ Aside0 (IsMap wr m (fun j => if j = x.u then some (.int .i64 (wrap64 (t + pause))) else f j) (n + 1)) ∧ Aside0 (Ext (Gm g m) w1 wr) ∧ Aside0 (OwnE ks (fun _ => False) 39 B wr (Value.slice (some ad) nl c) (pre ++ y :: post)) ∧ Aside0 (OwnE kd (fun _ => False) 48 B wr v9 ([x.t])) ∧ Aside0 (Keeps w1 wr)) (fun v _ => nl + 1 - (intOf v).toNat)
 case atStart => exact ⟨0, rfl, Nat.zero_le _, BK_g, MP_m, XT, OB_l, OB_d, KP⟩
 case round =>
  clear BK_g MP_m XT OB_l OB_d KP lc11_0 lc11_1 lc11_2 lc11_3 lc11_4 lc11_5 lc11_6 lc11_7 lc11_8 lc11_9 lf11_0 lf11_1 lf11_2 lf11_3 lf11_4 lf11_5 lf11_6 lf11_7 lf11_8 lf11_9
  obtain ⟨i, rfl, hle, BK_g, MP_m, XT, OB_l, OB_d, KP⟩ := hrel
  by_cases hlt : i < np
  ·have HLT := Aside0.mk hlt
   have hin : i < nl := by have := HN.out; have := HNP.out; simp only [List.length_append, List.length_cons] at *; omega
   have HIN_ := Aside0.mk hin
   obtain ⟨z, hzm, hz⟩ := get_pre (l2 := y :: post) (i := i) (by rw [HNP.out]; exact hlt)
   obtain ⟨ad_, ead, hat⟩ := row_i OB_l.out hz; obtain rfl : ad = ad_ := by injection ead
   have hsz := HS1.out z hzm
   refine cl10_ BK_g.out ?_; intro lc12_0 lc12_1 lc12_2 lc12_3 lc12_4 lc12_5 lc12_6 lc12_7 lc12_8 lc12_9 lf12_0 lf12_1 lf12_2 lf12_3 lf12_4 lf12_5 lf12_6 lf12_7 lf12_8 lf12_9
   have c0 : decide ((i : Int) < (nl : Int)) = true := decide_eq_true (by omega); have c0n : decide (i < nl) = true := decide_eq_true hin
   obtain ⟨rv, hrv⟩ : ∃ r : Int, r = (if z.u = x.u then wrap64 (t + pause) else rest z.u) := ⟨_, rfl⟩
   rw [← hrv] at hsz
   have q7 : decide (t < rv) = true := decide_eq_true hsz
   have HRV := Aside0.mk hrv; clear hrv hsz hzm hz
   unfold At at hat
   obtain ⟨lr0, lr1, lr2, lr3, lr4, lr5, lr6, lr7, lr8⟩ := hat
   go_upto_region 16 with (first | ((with_reducible refine gate_dst (N := 10) rfl ?_); go_must (refine bx_ (N := 10) (cs := #[.int .i64 0, .int .i64 0, .int .i64 0, .int .i64 0, .int .i64 0, .slice none 0 0, .int .i64 0, .int .i64 0, .int .i64 0]) (t := 39) ?_; intro s hg w7 hbox HBc; have NE_l_s : Aside0 (∀ k, ((Value.slice (some ad) nl c)).ownBlock = some k → k ≠ s) := ⟨fun k hk e => by have := OwnE.lt OB_l.out k hk; omega⟩; have NE_d_s : Aside0 (∀ k, (v9).ownBlock = some k → k ≠ s) := ⟨fun k hk e => by have := OwnE.lt OB_d.out k hk; omega⟩; have NE_g_s : Aside0 (g ≠ s) := ⟨ne_born (blk_lt BK_g.out) hg⟩; have NE_s_g : Aside0 (s ≠ g) := ⟨fun e => NE_g_s.out e.symm⟩; have NE_m_s : Aside0 (m ≠ s) := ⟨ne_born (IsMap.lt MP_m.out) hg⟩; have NE_s_m : Aside0 (s ≠ m) := ⟨fun e => NE_m_s.out e.symm⟩; have F_s : Aside0 (∀ k, k = s → (Gm g m) k ∨ w1.heap.size ≤ k) := ⟨fnew hg XT.out.size⟩; have RG_s : Aside0 (w1.heap.size ≤ s) := ⟨Nat.le_trans XT.out.size (Nat.le_of_eq hg.symm)⟩; have BG_s : Aside0 (B ≤ s) := ⟨Nat.le_trans HBW.out RG_s.out⟩; clear hg; replace OB_l := Aside0.mk (ks_mv OB_l.out (Ext.none_ HBc) (fun _ _ e => e)); replace OB_d := Aside0.mk (kd_mv OB_d.out (Ext.none_ HBc) (fun _ _ e => e)); replace KP := Aside0.mk (keeps_then KP.out HBc); clear lc12_0 lc12_1 lc12_2 lc12_3 lc12_4 lc12_5 lc12_6 lc12_7 lc12_8 lc12_9 lf12_0 lf12_1 lf12_2 lf12_3 lf12_4 lf12_5 lf12_6 lf12_7 lf12_8 lf12_9; replace BK_g := Aside0.mk (Ext.blk (Ext.none_ HBc) BK_g.out (fun e => e)); replace MP_m := Aside0.mk (IsMap.ext MP_m.out (Ext.none_ HBc) (fun e => e)); replace XT := Aside0.mk (XT.out.stepB HBc); have BK_s : Aside0 (w7.heap[s]? = some (.cells #[.int .i64 0, .int .i64 0, .int .i64 0, .int .i64 0, .int .i64 0, .slice none 0 0, .int .i64 0, .int .i64 0, .int .i64 0] 39 (0, 0))) := ⟨hbox⟩; clear hbox HBc; refine cl10_ BK_g.out ?_; intro lc13_0 lc13_1 lc13_2 lc13_3 lc13_4 lc13_5 lc13_6 lc13_7 lc13_8 lc13_9 lf13_0 lf13_1 lf13_2 lf13_3 lf13_4 lf13_5 lf13_6 lf13_7 lf13_8 lf13_9; refine cl9_ BK_s.out ?_; intro lc14_0 lc14_1 lc14_2 lc14_3 lc14_4 lc14_5 lc14_6 lc14_7 lc14_8 lf14_0 lf14_1 lf14_2 lf14_3 lf14_4 lf14_5 lf14_6 lf14_7 lf14_8)) | ((with_reducible refine gate_store (p := 10) rfl ?_); go_must (refine store_event (w1 := ?_) rfl (p := 10) rfl rfl ?hr ?_; rotate_left; (case hr => go_simp; rfl); intro w8 hw_; have hput : w8.heap[s]? = some (.cells #[.int .i64 z.t, .int .i64 z.u, .int .i64 z.f, .int .i64 z.a, .int .i64 z.c, .slice z.A z.l z.k, .int .i64 z.o, .int .i64 z.n, .int .i64 z.r] 39 (0, 0)) := (by rw [hw_]; refine blk_put (cs := #[.int .i64 z.t, .int .i64 z.u, .int .i64 z.f, .int .i64 z.a, .int .i64 z.c, .slice z.A z.l z.k, .int .i64 z.o, .int .i64 z.n, .int .i64 0]) ?_ 8 _ rfl; refine blk_put (cs := #[.int .i64 z.t, .int .i64 z.u, .int .i64 z.f, .int .i64 z.a, .int .i64 z.c, .slice z.A z.l z.k, .int .i64 z.o, .int .i64 0, .int .i64 0]) ?_ 7 _ rfl; refine blk_put (cs := #[.int .i64 z.t, .int .i64 z.u, .int .i64 z.f, .int .i64 z.a, .int .i64 z.c, .slice z.A z.l z.k, .int .i64 0, .int .i64 0, .int .i64 0]) ?_ 6 _ rfl; refine blk_put (cs := #[.int .i64 z.t, .int .i64 z.u, .int .i64 z.f, .int .i64 z.a, .int .i64 z.c, .slice none 0 0, .int .i64 0, .int .i64 0, .int .i64 0]) ?_ 5 _ rfl; refine blk_put (cs := #[.int .i64 z.t, .int .i64 z.u, .int .i64 z.f, .int .i64 z.a, .int .i64 0, .slice none 0 0, .int .i64 0, .int .i64 0, .int .i64 0]) ?_ 4 _ rfl; refine blk_put (cs := #[.int .i64 z.t, .int .i64 z.u, .int .i64 z.f, .int .i64 0, .int .i64 0, .slice none 0 0, .int .i64 0, .int .i64 0, .int .i64 0]) ?_ 3 _ rfl; refine blk_put (cs := #[.int .i64 z.t, .int .i64 z.u, .int .i64 0, .int .i64 0, .int .i64 0, .slice none 0 0, .int .i64 0, .int .i64 0, .int .i64 0]) ?_ 2 _ rfl; refine blk_put (cs := #[.int .i64 z.t, .int .i64 0, .int .i64 0, .int .i64 0, .int .i64 0, .slice none 0 0, .int .i64 0, .int .i64 0, .int .i64 0]) ?_ 1 _ rfl; refine blk_put (cs := #[.int .i64 0, .int .i64 0, .int .i64 0, .int .i64 0, .int .i64 0, .slice none 0 0, .int .i64 0, .int .i64 0, .int .i64 0]) ?_ 0 _ rfl; exact BK_s.out); have HEc : Ext (fun k => k = s) w7 w8 := (by rw [hw_]; exact ((((((((((Ext.refl _ _).setg _).setg _).setg _).setg _).setg _).setg _).setg _).setg _).setg _)); clear hw_; replace OB_l := Aside0.mk (ks_mv OB_l.out HEc NE_l_s.out); replace OB_d := Aside0.mk (kd_mv OB_d.out HEc NE_d_s.out); replace KP := Aside0.mk (keeps_set KP.out HEc BK_s.out (.inr (.inl rfl))); clear lc13_0 lc13_1 lc13_2 lc13_3 lc13_4 lc13_5 lc13_6 lc13_7 lc13_8 lc13_9 lf13_0 lf13_1 lf13_2 lf13_3 lf13_4 lf13_5 lf13_6 lf13_7 lf13_8 lf13_9 lc14_0 lc14_1 lc14_2 lc14_3 lc14_4 lc14_5 lc14_6 lc14_7 lc14_8 lf14_0 lf14_1 lf14_2 lf14_3 lf14_4 lf14_5 lf14_6 lf14_7 lf14_8; replace BK_g := Aside0.mk (Ext.blk HEc BK_g.out NE_g_s.out); replace MP_m := Aside0.mk (IsMap.ext MP_m.out HEc NE_m_s.out); replace XT := Aside0.mk (XT.out.step HEc (F_s.out)); clear BK_s; have BK_s : Aside0 (w8.heap[s]? = some (.cells #[.int .i64 z.t, .int .i64 z.u, .int .i64 z.f, .int .i64 z.a, .int .i64 z.c, .slice z.A z.l z.k, .int .i64 z.o, .int .i64 z.n, .int .i64 z.r] 39 (0, 0))) := ⟨hput⟩; clear hput HEc; refine cl10_ BK_g.out ?_; intro lc15_0 lc15_1 lc15_2 lc15_3 lc15_4 lc15_5 lc15_6 lc15_7 lc15_8 lc15_9 lf15_0 lf15_1 lf15_2 lf15_3 lf15_4 lf15_5 lf15_6 lf15_7 lf15_8 lf15_9; refine cl9_ BK_s.out ?_; intro lc16_0 lc16_1 lc16_2 lc16_3 lc16_4 lc16_5 lc16_6 lc16_7 lc16_8 lf16_0 lf16_1 lf16_2 lf16_3 lf16_4 lf16_5 lf16_6 lf16_7 lf16_8)))
   clear lr0 lr1 lr2 lr3 lr4 lr5 lr6 lr7 lr8
   clear lc15_0 lc15_1 lc15_2 lc15_3 lc15_4 lc15_5 lc15_6 lc15_7 lc15_8 lc15_9 lf15_0 lf15_1 lf15_2 lf15_3 lf15_4 lf15_5 lf15_6 lf15_7 lf15_8 lf15_9 lc16_0 lc16_1 lc16_2 lc16_3 lc16_4 lc16_5 lc16_6 lc16_7 lc16_8 lf16_0 lf16_1 lf16_2 lf16_3 lf16_4 lf16_5 lf16_6 lf16_7 lf16_8
   refine start_ (n := 9) (S := fun W => W.cell? ⟨g, 9, none⟩ = some (.map (some m)) ∧ W.cell? ⟨s, 1, none⟩ = some (.int .i64 z.u)) (ds := []) (fl 9 0) (by kernel_rfl) rfl (by kernel_rfl) ?_ (fun hHeld => ?_)
   ·exact ⟨(blk_cell (bk_ BK_g) 9).trans rfl, (blk_cell (bk_ BK_s) 1).trans rfl⟩
   refine pu_ 0 94 (fl 9 1) rfl rfl (by kernel_rfl) ?_
   refine pu_ 1 95 (fl 9 3) rfl rfl (by kernel_rfl) ?_
   refine pu_ 2 96 (fl 9 7) rfl rfl (by kernel_rfl) ?_
   refine tk_ 3 97 (fl 9 15) rfl rfl (by kernel_rfl) hHeld ?_
   refine pu_ 4 98 (fl 9 31) rfl rfl (by kernel_rfl) ?_
   refine tk_ 5 99 (fl 9 63) rfl rfl (by kernel_rfl) hHeld ?_
   refine pu_ 7 101 (fl 9 191) rfl rfl (by kernel_rfl) ?_
   refine one_ (i := 6) (N := some 100) (fl 9 255) rfl rfl (by kernel_rfl) (by decide) (fun K hK => ?_)
   refine look_step (k := z.u) (v := .int .i64 rv) (by rfl) rfl rfl (MP_m.out.ext (Ext.none_ (by repeat (first | exact Below.refl _ _ | apply pw_below_drewN | apply below_drew1))) (fun e => e)) Try.underlying70 Try.underlying3 zeroI ?hx ?hy ((HF.out z.u).trans (congrArg (Value.int .i64) HRV.out.symm)) ?_
   case hx => rfl
   case hy => rfl
   refine hK.out _ _ ?_ (fun hHeld => ?_)
   ·exact ⟨(blk_cell (bk_ BK_g) 9).trans rfl, (blk_cell (bk_ BK_s) 1).trans rfl⟩
   clear hK K
   refine norm_ (a' := ?_) ?_ ?_
   rotate_left
   ·show Act.put _ (some 100) _ = _
    simp only [Act.put, List.setIfInBounds_toArray, List.set_cons_zero, List.set_cons_succ, i64_w, i32_w]
    rfl
   refine pu_ 8 102 (fl 9 511) rfl rfl (by kernel_rfl) ?_
   refine done_ (by kernel_rfl) ?_
   generalize hwd : World.drew w8 = w9
   have HBc : Below w8.heap.size w8 w9 := (by rw [← hwd]; exact below_drew (Below.refl _ _))
   clear hwd
   replace OB_l := Aside0.mk (ks_mv OB_l.out (Ext.none_ HBc) (fun _ _ e => e))
   replace OB_d := Aside0.mk (kd_mv OB_d.out (Ext.none_ HBc) (fun _ _ e => e))
   replace KP := Aside0.mk (keeps_then KP.out HBc)
   replace BK_g := Aside0.mk (Ext.blk (Ext.none_ HBc) BK_g.out (fun e => e))
   replace BK_s := Aside0.mk (Ext.blk (Ext.none_ HBc) BK_s.out (fun e => e))
   replace MP_m := Aside0.mk (IsMap.ext MP_m.out (Ext.none_ HBc) (fun e => e))
   replace XT := Aside0.mk (XT.out.stepB HBc)
   clear HBc
   refine cl10_ BK_g.out ?_; intro lc17_0 lc17_1 lc17_2 lc17_3 lc17_4 lc17_5 lc17_6 lc17_7 lc17_8 lc17_9 lf17_0 lf17_1 lf17_2 lf17_3 lf17_4 lf17_5 lf17_6 lf17_7 lf17_8 lf17_9
   refine cl9_ BK_s.out ?_; intro lc18_0 lc18_1 lc18_2 lc18_3 lc18_4 lc18_5 lc18_6 lc18_7 lc18_8 lf18_0 lf18_1 lf18_2 lf18_3 lf18_4 lf18_5 lf18_6 lf18_7 lf18_8
   have hw1 : wrap64 ((i : Int) + 1) = (i : Int) + 1 := by have h1 := HIN_.out; have h2 := HLX.out; have h3 := HN.out; rw [h3] at h2; unfold wrap64; omega
   have HW1 := Aside0.mk hw1
   go_wp2
   go_roundw
   case rel => exact ⟨i + 1, congrArg (Value.int .i64) (by first | rfl | exact HW1.out | (rw [HW1.out]; rfl)), HLT.out, BK_g, MP_m, XT, OB_l, OB_d, KP⟩
   case measure => first | exact meas HIN_.out | exact measw HW1.out HIN_.out
  have hie : i = np := by omega
  clear hle hlt
  subst hie
  have hin : i < nl := by have := HN.out; have := HNP.out; simp only [List.length_append, List.length_cons] at *; omega
  have HIN_ := Aside0.mk hin
  obtain ⟨ad_, ead, hat⟩ := row_i OB_l.out (get_mid HNP.out); obtain rfl : ad = ad_ := by injection ead
  have hsz := HS2.out
  refine cl10_ BK_g.out ?_; intro lc12_0 lc12_1 lc12_2 lc12_3 lc12_4 lc12_5 lc12_6 lc12_7 lc12_8 lc12_9 lf12_0 lf12_1 lf12_2 lf12_3 lf12_4 lf12_5 lf12_6 lf12_7 lf12_8 lf12_9
  have c0 : decide ((i : Int) < (nl : Int)) = true := decide_eq_true (by omega); have c0n : decide (i < nl) = true := decide_eq_true hin
  obtain ⟨rv, hrv⟩ : ∃ r : Int, r = (if y.u = x.u then wrap64 (t + pause) else rest y.u) := ⟨_, rfl⟩
  rw [← hrv] at hsz
  have q7 : decide (t < rv) = false := decide_eq_false (Int.not_lt.2 hsz)
  have HRV := Aside0.mk hrv; clear hrv hsz
  unfold At at hat
  obtain ⟨lr0, lr1, lr2, lr3, lr4, lr5, lr6, lr7, lr8⟩ := hat
  go_upto_region 16 with (first | ((with_reducible refine gate_dst (N := 10) rfl ?_); go_must (refine bx_ (N := 10) (cs := #[.int .i64 0, .int .i64 0, .int .i64 0, .int .i64 0, .int .i64 0, .slice none 0 0, .int .i64 0, .int .i64 0, .int .i64 0]) (t := 39) ?_; intro s hg w27 hbox HBc; have NE_l_s : Aside0 (∀ k, ((Value.slice (some ad) nl c)).ownBlock = some k → k ≠ s) := ⟨fun k hk e => by have := OwnE.lt OB_l.out k hk; omega⟩; have NE_d_s : Aside0 (∀ k, (v9).ownBlock = some k → k ≠ s) := ⟨fun k hk e => by have := OwnE.lt OB_d.out k hk; omega⟩; have NE_g_s : Aside0 (g ≠ s) := ⟨ne_born (blk_lt BK_g.out) hg⟩; have NE_s_g : Aside0 (s ≠ g) := ⟨fun e => NE_g_s.out e.symm⟩; have NE_m_s : Aside0 (m ≠ s) := ⟨ne_born (IsMap.lt MP_m.out) hg⟩; have NE_s_m : Aside0 (s ≠ m) := ⟨fun e => NE_m_s.out e.symm⟩; have F_s : Aside0 (∀ k, k = s → (Gm g m) k ∨ w1.heap.size ≤ k) := ⟨fnew hg XT.out.size⟩; have RG_s : Aside0 (w1.heap.size ≤ s) := ⟨Nat.le_trans XT.out.size (Nat.le_of_eq hg.symm)⟩; have BG_s : Aside0 (B ≤ s) := ⟨Nat.le_trans HBW.out RG_s.out⟩; clear hg; replace OB_l := Aside0.mk (ks_mv OB_l.out (Ext.none_ HBc) (fun _ _ e => e)); replace OB_d := Aside0.mk (kd_mv OB_d.out (Ext.none_ HBc) (fun _ _ e => e)); replace KP := Aside0.mk (keeps_then KP.out HBc); clear lc12_0 lc12_1 lc12_2 lc12_3 lc12_4 lc12_5 lc12_6 lc12_7 lc12_8 lc12_9 lf12_0 lf12_1 lf12_2 lf12_3 lf12_4 lf12_5 lf12_6 lf12_7 lf12_8 lf12_9; replace BK_g := Aside0.mk (Ext.blk (Ext.none_ HBc) BK_g.out (fun e => e)); replace MP_m := Aside0.mk (IsMap.ext MP_m.out (Ext.none_ HBc) (fun e => e)); replace XT := Aside0.mk (XT.out.stepB HBc); have BK_s : Aside0 (w27.heap[s]? = some (.cells #[.int .i64 0, .int .i64 0, .int .i64 0, .int .i64 0, .int .i64 0, .slice none 0 0, .int .i64 0, .int .i64 0, .int .i64 0] 39 (0, 0))) := ⟨hbox⟩; clear hbox HBc; refine cl10_ BK_g.out ?_; intro lc13_0 lc13_1 lc13_2 lc13_3 lc13_4 lc13_5 lc13_6 lc13_7 lc13_8 lc13_9 lf13_0 lf13_1 lf13_2 lf13_3 lf13_4 lf13_5 lf13_6 lf13_7 lf13_8 lf13_9; refine cl9_ BK_s.out ?_; intro lc14_0 lc14_1 lc14_2 lc14_3 lc14_4 lc14_5 lc14_6 lc14_7 lc14_8 lf14_0 lf14_1 lf14_2 lf14_3 lf14_4 lf14_5 lf14_6 lf14_7 lf14_8)) | ((with_reducible refine gate_store (p := 10) rfl ?_); go_must (refine store_event (w1 := ?_) rfl (p := 10) rfl rfl ?hr ?_; rotate_left; (case hr => go_simp; rfl); intro w28 hw_; have hput : w28.heap[s]? = some (.cells #[.int .i64 y.t, .int .i64 y.u, .int .i64 y.f, .int .i64 y.a, .int .i64 y.c, .slice y.A y.l y.k, .int .i64 y.o, .int .i64 y.n, .int .i64 y.r] 39 (0, 0)) := (by rw [hw_]; refine blk_put (cs := #[.int .i64 y.t, .int .i64 y.u, .int .i64 y.f, .int .i64 y.a, .int .i64 y.c, .slice y.A y.l y.k, .int .i64 y.o, .int .i64 y.n, .int .i64 0]) ?_ 8 _ rfl; refine blk_put (cs := #[.int .i64 y.t, .int .i64 y.u, .int .i64 y.f, .int .i64 y.a, .int .i64 y.c, .slice y.A y.l y.k, .int .i64 y.o, .int .i64 0, .int .i64 0]) ?_ 7 _ rfl; refine blk_put (cs := #[.int .i64 y.t, .int .i64 y.u, .int .i64 y.f, .int .i64 y.a, .int .i64 y.c, .slice y.A y.l y.k, .int .i64 0, .int .i64 0, .int .i64 0]) ?_ 6 _ rfl; refine blk_put (cs := #[.int .i64 y.t, .int .i64 y.u, .int .i64 y.f, .int .i64 y.a, .int .i64 y.c, .slice none 0 0, .int .i64 0, .int .i64 0, .int .i64 0]) ?_ 5 _ rfl; refine blk_put (cs := #[.int .i64 y.t, .int .i64 y.u, .int .i64 y.f, .int .i64 y.a, .int .i64 0, .slice none 0 0, .int .i64 0, .int .i64 0, .int .i64 0]) ?_ 4 _ rfl; refine blk_put (cs := #[.int .i64 y.t, .int .i64 y.u, .int .i64 y.f, .int .i64 0, .int .i64 0, .slice none 0 0, .int .i64 0, .int .i64 0, .int .i64 0]) ?_ 3 _ rfl; refine blk_put (cs := #[.int .i64 y.t, .int .i64 y.u, .int .i64 0, .int .i64 0, .int .i64 0, .slice none 0 0, .int .i64 0, .int .i64 0, .int .i64 0]) ?_ 2 _ rfl; refine blk_put (cs := #[.int .i64 y.t, .int .i64 0, .int .i64 0, .int .i64 0, .int .i64 0, .slice none 0 0, .int .i64 0, .int .i64 0, .int .i64 0]) ?_ 1 _ rfl; refine blk_put (cs := #[.int .i64 0, .int .i64 0, .int .i64 0, .int .i64 0, .int .i64 0, .slice none 0 0, .int .i64 0, .int .i64 0, .int .i64 0]) ?_ 0 _ rfl; exact BK_s.out); have HEc : Ext (fun k => k = s) w27 w28 := (by rw [hw_]; exact ((((((((((Ext.refl _ _).setg _).setg _).setg _).setg _).setg _).setg _).setg _).setg _).setg _)); clear hw_; replace OB_l := Aside0.mk (ks_mv OB_l.out HEc NE_l_s.out); replace OB_d := Aside0.mk (kd_mv OB_d.out HEc NE_d_s.out); replace KP := Aside0.mk (keeps_set KP.out HEc BK_s.out (.inr (.inl rfl))); clear lc13_0 lc13_1 lc13_2 lc13_3 lc13_4 lc13_5 lc13_6 lc13_7 lc13_8 lc13_9 lf13_0 lf13_1 lf13_2 lf13_3 lf13_4 lf13_5 lf13_6 lf13_7 lf13_8 lf13_9 lc14_0 lc14_1 lc14_2 lc14_3 lc14_4 lc14_5 lc14_6 lc14_7 lc14_8 lf14_0 lf14_1 lf14_2 lf14_3 lf14_4 lf14_5 lf14_6 lf14_7 lf14_8; replace BK_g := Aside0.mk (Ext.blk HEc BK_g.out NE_g_s.out); replace MP_m := Aside0.mk (IsMap.ext MP_m.out HEc NE_m_s.out); replace XT := Aside0.mk (XT.out.step HEc (F_s.out)); clear BK_s; have BK_s : Aside0 (w28.heap[s]? = some (.cells #[.int .i64 y.t, .int .i64 y.u, .int .i64 y.f, .int .i64 y.a, .int .i64 y.c, .slice y.A y.l y.k, .int .i64 y.o, .int .i64 y.n, .int .i64 y.r] 39 (0, 0))) := ⟨hput⟩; clear hput HEc; refine cl10_ BK_g.out ?_; intro lc15_0 lc15_1 lc15_2 lc15_3 lc15_4 lc15_5 lc15_6 lc15_7 lc15_8 lc15_9 lf15_0 lf15_1 lf15_2 lf15_3 lf15_4 lf15_5 lf15_6 lf15_7 lf15_8 lf15_9; refine cl9_ BK_s.out ?_; intro lc16_0 lc16_1 lc16_2 lc16_3 lc16_4 lc16_5 lc16_6 lc16_7 lc16_8 lf16_0 lf16_1 lf16_2 lf16_3 lf16_4 lf16_5 lf16_6 lf16_7 lf16_8)))
  clear lr0 lr1 lr2 lr3 lr4 lr5 lr6 lr7 lr8
  clear lc15_0 lc15_1 lc15_2 lc15_3 lc15_4 lc15_5 lc15_6 lc15_7 lc15_8 lc15_9 lf15_0 lf15_1 lf15_2 lf15_3 lf15_4 lf15_5 lf15_6 lf15_7 lf15_8 lf15_9 lc16_0 lc16_1 lc16_2 lc16_3 lc16_4 lc16_5 lc16_6 lc16_7 lc16_8 lf16_0 lf16_1 lf16_2 lf16_3 lf16_4 lf16_5 lf16_6 lf16_7 lf16_8
  refine start_ (n := 9) (S := fun W => W.cell? ⟨g, 9, none⟩ = some (.map (some m)) ∧ W.cell? ⟨s, 1, none⟩ = some (.int .i64 y.u)) (ds := []) (fl 9 0) (by kernel_rfl) rfl (by kernel_rfl) ?_ (fun hHeld => ?_)
  ·exact ⟨(blk_cell (bk_ BK_g) 9).trans rfl, (blk_cell (bk_ BK_s) 1).trans rfl⟩
  refine pu_ 0 94 (fl 9 1) rfl rfl (by kernel_rfl) ?_
  refine pu_ 1 95 (fl 9 3) rfl rfl (by kernel_rfl) ?_
  refine pu_ 2 96 (fl 9 7) rfl rfl (by kernel_rfl) ?_
  refine tk_ 3 97 (fl 9 15) rfl rfl (by kernel_rfl) hHeld ?_
  refine pu_ 4 98 (fl 9 31) rfl rfl (by kernel_rfl) ?_
  refine tk_ 5 99 (fl 9 63) rfl rfl (by kernel_rfl) hHeld ?_
  refine pu_ 7 101 (fl 9 191) rfl rfl (by kernel_rfl) ?_
  refine one_ (i := 6) (N := some 100) (fl 9 255) rfl rfl (by kernel_rfl) (by decide) (fun K hK => ?_)
  refine look_step (k := y.u) (v := .int .i64 rv) (by rfl) rfl rfl (MP_m.out.ext (Ext.none_ (by repeat (first | exact Below.refl _ _ | apply pw_below_drewN | apply below_drew1))) (fun e => e)) Try.underlying70 Try.underlying3 zeroI ?hx ?hy ((HF.out y.u).trans (congrArg (Value.int .i64) HRV.out.symm)) ?_
  case hx => rfl
  case hy => rfl
  refine hK.out _ _ ?_ (fun hHeld => ?_)
  ·exact ⟨(blk_cell (bk_ BK_g) 9).trans rfl, (blk_cell (bk_ BK_s) 1).trans rfl⟩
  clear hK K
  refine norm_ (a' := ?_) ?_ ?_
  rotate_left
  ·show Act.put _ (some 100) _ = _
   simp only [Act.put, List.setIfInBounds_toArray, List.set_cons_zero, List.set_cons_succ, i64_w, i32_w]
   rfl
  refine pu_ 8 102 (fl 9 511) rfl rfl (by kernel_rfl) ?_
  refine done_ (by kernel_rfl) ?_
  generalize hwd : World.drew w28 = w29
  have HBc : Below w28.heap.size w28 w29 := (by rw [← hwd]; exact below_drew (Below.refl _ _))
  clear hwd
  replace OB_l := Aside0.mk (ks_mv OB_l.out (Ext.none_ HBc) (fun _ _ e => e))
  replace OB_d := Aside0.mk (kd_mv OB_d.out (Ext.none_ HBc) (fun _ _ e => e))
  replace KP := Aside0.mk (keeps_then KP.out HBc)
  replace BK_g := Aside0.mk (Ext.blk (Ext.none_ HBc) BK_g.out (fun e => e))
  replace BK_s := Aside0.mk (Ext.blk (Ext.none_ HBc) BK_s.out (fun e => e))
  replace MP_m := Aside0.mk (IsMap.ext MP_m.out (Ext.none_ HBc) (fun e => e))
  replace XT := Aside0.mk (XT.out.stepB HBc)
  clear HBc
  go_upto_region 17 with (fail)
  have hnn : nl = i + 1 + nq := by have h1 := HN.out; have h2 := HNP.out; have h3 := HNQ.out; simp only [List.length_append, List.length_cons] at h1; omega
  obtain ⟨ip, hip⟩ : ∃ ip : Int, ip = (i : Int) + 1 := ⟨_, rfl⟩
  have hw1 : wrap64 ((i : Int) + 1) = ip := by have h2 := HLX.out; rw [HN.out] at h2; rw [hip]; unfold wrap64; omega
  have hs1 := slice_to ad c nl i (by omega) HCAP.out; have hs2 := slice_from ad c nl i nq ip hip hnn
  have hcu := row_cuts OB_l.out HNP.out HNQ.out HCAP.out HN.out
  generalize (if c = i + 1 then some ad else (some ad : Option Addr).map (·.add ((i + 1) * 9))) = A2 at hs2 hcu
  generalize c - (i + 1) = c2 at hs2
  have HVC := Aside0.mk hcu; have HNN := Aside0.mk hnn; clear hcu hnn hip
  have XT0 := XT; have LTS : Aside0 (s < w29.heap.size) := ⟨blk_lt BK_s.out⟩
  refine start_ (n := 19) (S := fun W => W.cell? ⟨g, 5, none⟩ = some (.slice (some ad) nl c)) (ds := [18]) (fl 19 0) (by kernel_rfl) rfl (by kernel_rfl) ?_ (fun hHeld => ?_)
  ·exact (blk_cell (bk_ BK_g) 5).trans rfl
  refine pu_ 0 103 (fl 19 1) rfl rfl (by kernel_rfl) ?_ (ha := by simp only [Act.put, List.setIfInBounds_toArray, List.set_cons_zero, List.set_cons_succ, i64_w, i32_w, hw1]; rfl)
  refine pu_ 1 104 (fl 19 3) rfl rfl (by kernel_rfl) ?_ (ha := by simp only [Act.put, List.setIfInBounds_toArray, List.set_cons_zero, List.set_cons_succ, i64_w, i32_w, hw1]; rfl)
  refine pu_ 2 105 (fl 19 7) rfl rfl (by kernel_rfl) ?_ (ha := by simp only [Act.put, List.setIfInBounds_toArray, List.set_cons_zero, List.set_cons_succ, i64_w, i32_w, hw1]; rfl)
  refine pu_ 3 106 (fl 19 15) rfl rfl (by kernel_rfl) ?_ (ha := by simp only [Act.put, List.setIfInBounds_toArray, List.set_cons_zero, List.set_cons_succ, i64_w, i32_w, hw1]; rfl)
  refine tk_ 4 107 (fl 19 31) rfl rfl (by kernel_rfl) hHeld ?_ (ha := by simp only [Act.put, List.setIfInBounds_toArray, List.set_cons_zero, List.set_cons_succ, i64_w, i32_w, hw1]; rfl)
  refine pu_ 5 108 (fl 19 63) rfl rfl (by kernel_rfl) ?_ (ha := by simp only [Act.put, List.setIfInBounds_toArray, List.set_cons_zero, List.set_cons_succ, i64_w, i32_w, hw1]; rfl)
  refine tk_ 6 109 (fl 19 127) rfl rfl (by kernel_rfl) hHeld ?_ (ha := by simp only [Act.put, List.setIfInBounds_toArray, List.set_cons_zero, List.set_cons_succ, i64_w, i32_w, hw1]; rfl)
  refine pu_ 7 110 (fl 19 255) rfl rfl (by kernel_rfl) ?_ (ha := by simp only [Act.put, List.setIfInBounds_toArray, List.set_cons_zero, List.set_cons_succ, i64_w, i32_w, hw1]; rfl)
  refine pu_ 8 111 (fl 19 511) rfl rfl (by kernel_rfl) ?_ (ha := by simp only [Act.put, List.setIfInBounds_toArray, List.set_cons_zero, List.set_cons_succ, i64_w, i32_w, hw1]; rfl)
  refine pu_ 9 112 (fl 19 1023) rfl rfl (by kernel_rfl) ?_ (ha := by simp only [Act.put, List.setIfInBounds_toArray, List.set_cons_zero, List.set_cons_succ, i64_w, i32_w, hw1]; rfl)
  refine tk_ 10 113 (fl 19 2047) rfl rfl (by kernel_rfl) hHeld ?_ (ha := by simp only [Act.put, List.setIfInBounds_toArray, List.set_cons_zero, List.set_cons_succ, i64_w, i32_w, hw1]; rfl)
  refine pu_ 11 114 (fl 19 4095) rfl rfl (by kernel_rfl) ?_ (ha := by simp only [Act.put, List.setIfInBounds_toArray, List.set_cons_zero, List.set_cons_succ, i64_w, i32_w, hw1]; rfl)
  refine pu_ 12 115 (fl 19 8191) rfl rfl (by kernel_rfl) ?_ (ha := by simp only [Act.put, List.setIfInBounds_toArray, List.set_cons_zero, List.set_cons_succ, i64_w, i32_w, hw1]; rfl)
  refine tk_ 13 116 (fl 19 16383) rfl rfl (by kernel_rfl) hHeld ?_ (ha := by simp only [Act.put, List.setIfInBounds_toArray, List.set_cons_zero, List.set_cons_succ, i64_w, i32_w, hw1]; rfl)
  refine one_ (i := 14) (N := some 117) (fl 19 32767) rfl rfl (by kernel_rfl) (by decide) (fun K hK => ?_)
  refine value_ (v := ?vv) (w1 := ?ww) (by rfl) rfl ?hr ?kk
  case hr => (go_simp; refine And.intro ?_ ?_ <;> rfl)
  refine hK.out _ _ ?_ (fun hHeld => ?_)
  ·exact (blk_cell (bk_ BK_g) 5).trans rfl
  clear hK K
  refine norm_ (a' := ?_) ?_ ?_
  rotate_left
  ·show Act.put _ (some 117) _ = _
   simp only [Act.put, List.setIfInBounds_toArray, List.set_cons_zero, List.set_cons_succ, i64_w, i32_w, hw1]
   rfl
  refine one_ (i := 15) (N := some 118) (fl 19 65535) rfl rfl (by kernel_rfl) (by decide) (fun K hK => ?_)
  refine goes_ Try.func33 (by kernel_rfl) rfl #[.slice (some ⟨w29.heap.size, 0, none⟩) 2 2] (by rfl) rfl rfl (by (try simp only [List.map_toArray, List.map_cons, List.map_nil]); first | done | rfl) ?_
  refine (concat_c (some ad) A2 c c2 pre post i nq HNP.out HNQ.out w29.heap.size 2 _ ?hgb ?hv1 ?hvv (by have h2 := HLX.out; rw [HN.out] at h2; have := HNN.out; omega)).mono ?_
  case hgb => exact new_blk (W := w29) rfl
  case hv1 => exact Kd.C_below HVC.out.1 (by repeat (first | exact Below.refl _ _ | apply pw_below_drewN | apply below_drew1 | apply below_alloc))
  case hvv => exact Kd.C_below HVC.out.2 (by repeat (first | exact Below.refl _ _ | apply pw_below_drewN | apply below_drew1 | apply below_alloc))
  rintro e w30 ⟨vn, rfl, HOn, HBn⟩
  refine ⟨_, rfl, ?_⟩
  have HBc : Below w29.heap.size w29 w30 := below_step (by repeat (first | exact Below.refl _ _ | apply pw_below_drewN | apply below_drew1 | apply below_alloc)) HBn
  skip
  have HNS : Aside0 (∀ k, vn.ownBlock = some k → w29.heap.size ≤ k) := ⟨fun k hk => Nat.le_trans (below_size (by repeat (first | exact Below.refl _ _ | apply pw_below_drewN | apply below_drew1 | apply below_alloc))) (HOn.base_le k hk)⟩
  replace OB_l := Aside0.mk (ks_mv OB_l.out (Ext.none_ HBc) (fun _ _ e => e))
  replace OB_d := Aside0.mk (kd_mv OB_d.out (Ext.none_ HBc) (fun _ _ e => e))
  replace KP := Aside0.mk (keeps_then KP.out HBc)
  replace BK_g := Aside0.mk (Ext.blk (Ext.none_ HBc) BK_g.out (fun e => e))
  replace BK_s := Aside0.mk (Ext.blk (Ext.none_ HBc) BK_s.out (fun e => e))
  replace MP_m := Aside0.mk (IsMap.ext MP_m.out (Ext.none_ HBc) (fun e => e))
  replace XT := Aside0.mk (XT.out.stepB HBc)
  have OB_n : Aside0 (OwnE ks (fun _ => False) 39 B w30 vn (pre ++ post)) := ⟨ks_low HOn (Nat.le_trans (Nat.le_trans HBW.out XT0.out.size) (below_size (by repeat (first | exact Below.refl _ _ | apply pw_below_drewN | apply below_drew1 | apply below_alloc))))⟩
  have NE_n_s : Aside0 (∀ k, (vn).ownBlock = some k → k ≠ s) := ⟨fun k hk e => by have := HNS.out k hk; have := LTS.out; omega⟩
  have NE_n_g : Aside0 (∀ k, (vn).ownBlock = some k → k ≠ g) := ⟨ks_ne HOn BK_g.out (by decide)⟩
  have NE_n_m : Aside0 (∀ k, (vn).ownBlock = some k → k ≠ m) := ⟨ks_nm HOn MP_m.out⟩
  clear HOn HBn HBc HNS HVC hs1 hs2 XT0 LTS OB_l NE_l_g NE_l_m NE_l_s
  have OB_l := OB_n; have NE_l_s := NE_n_s; have NE_l_g := NE_n_g; have NE_l_m := NE_n_m; clear OB_n NE_n_s NE_n_g NE_n_m
  obtain ⟨A3, n3, c3, rfl, _, _⟩ := row_n OB_l.out
  refine hK.out _ _ ?_ (fun hHeld => ?_)
  ·exact (blk_cell (bk_ BK_g) 5).trans rfl
  clear hK K
  refine norm_ (a' := ?_) ?_ ?_
  rotate_left
  ·show Act.put _ (some 118) _ = _
   simp only [Act.put, List.setIfInBounds_toArray, List.set_cons_zero, List.set_cons_succ, i64_w, i32_w, hw1]
   rfl
  refine pu_ 16 119 (fl 19 131071) rfl rfl (by kernel_rfl) ?_ (ha := by simp only [Act.put, List.setIfInBounds_toArray, List.set_cons_zero, List.set_cons_succ, i64_w, i32_w, hw1]; rfl)
  refine pu_ 17 120 (fl 19 262143) rfl rfl (by kernel_rfl) ?_ (ha := by simp only [Act.put, List.setIfInBounds_toArray, List.set_cons_zero, List.set_cons_succ, i64_w, i32_w, hw1]; rfl)
  refine last_ (i := 18) (N := none) (fl 19 524287) rfl rfl (by kernel_rfl) (by decide) (fun K hK => ?_)
  have lz : w30.cell? ⟨g, 5, none⟩ = some (.slice (some ad) nl c) := (blk_cell BK_g.out 5).trans rfl; have lzf := blk_frozen BK_g.out 5
  refine skip_ (w1 := ?_) (by rfl) rfl ?_ ?_
  rotate_left
  ·go_simp
   rfl
  clear lz lzf
  generalize hw_ : World.setCell w30 ⟨g, 5, none⟩ _ = w31
  obtain ⟨hput, HEc⟩ := put1 (cs' := #[.int .i64 wait, .int .i64 again, .int .i64 pause, .int .i64 t, .int .i64 tk, .slice A3 n3 c3, .pointer none, .int .i64 times, .int .i64 last, .map (some m)]) hw_.symm BK_g.out rfl
  clear hw_
  replace OB_l := Aside0.mk (ks_mv OB_l.out HEc NE_l_g.out)
  replace OB_d := Aside0.mk (kd_mv OB_d.out HEc NE_d_g.out)
  replace KP := Aside0.mk (keeps_set KP.out HEc BK_g.out (.inl rfl))
  replace BK_s := Aside0.mk (Ext.blk HEc BK_s.out NE_s_g.out)
  replace MP_m := Aside0.mk (IsMap.ext MP_m.out HEc NE_m_g.out)
  replace XT := Aside0.mk (XT.out.step HEc (F_g.out))
  clear BK_g
  have BK_g : Aside0 (w31.heap[g]? = some (.cells #[.int .i64 wait, .int .i64 again, .int .i64 pause, .int .i64 t, .int .i64 tk, .slice A3 n3 c3, .pointer none, .int .i64 times, .int .i64 last, .map (some m)] 73 (0, 0))) := ⟨hput⟩
  clear hput HEc
  refine hK.out _ _ ?_
  clear hK K
  refine done_ (by kernel_rfl) ?_
  clear hw1
  refine cl10_ BK_g.out ?_; intro lc17_0 lc17_1 lc17_2 lc17_3 lc17_4 lc17_5 lc17_6 lc17_7 lc17_8 lc17_9 lf17_0 lf17_1 lf17_2 lf17_3 lf17_4 lf17_5 lf17_6 lf17_7 lf17_8 lf17_9
  refine cl9_ BK_s.out ?_; intro lc18_0 lc18_1 lc18_2 lc18_3 lc18_4 lc18_5 lc18_6 lc18_7 lc18_8 lf18_0 lf18_1 lf18_2 lf18_3 lf18_4 lf18_5 lf18_6 lf18_7 lf18_8
  go_upto_region 19 with (first | ((with_reducible refine gate_store (p := 124) rfl ?_); go_must (refine store_event (w1 := ?_) rfl (p := 124) rfl rfl ?hr ?_; rotate_left; (case hr => go_simp; rfl); intro w32 hw_; obtain ⟨hput, HEc⟩ := put1 (cs' := #[.int .i64 wait, .int .i64 again, .int .i64 pause, .int .i64 t, .int .i64 tk, .slice A3 n3 c3, .pointer (some ⟨s, 0, none⟩), .int .i64 times, .int .i64 last, .map (some m)]) hw_ BK_g.out rfl; clear hw_; replace OB_l := Aside0.mk (ks_mv OB_l.out HEc NE_l_g.out); replace OB_d := Aside0.mk (kd_mv OB_d.out HEc NE_d_g.out); replace KP := Aside0.mk (keeps_set KP.out HEc BK_g.out (.inl rfl)); clear lc17_0 lc17_1 lc17_2 lc17_3 lc17_4 lc17_5 lc17_6 lc17_7 lc17_8 lc17_9 lf17_0 lf17_1 lf17_2 lf17_3 lf17_4 lf17_5 lf17_6 lf17_7 lf17_8 lf17_9 lc18_0 lc18_1 lc18_2 lc18_3 lc18_4 lc18_5 lc18_6 lc18_7 lc18_8 lf18_0 lf18_1 lf18_2 lf18_3 lf18_4 lf18_5 lf18_6 lf18_7 lf18_8; replace BK_s := Aside0.mk (Ext.blk HEc BK_s.out NE_s_g.out); replace MP_m := Aside0.mk (IsMap.ext MP_m.out HEc NE_m_g.out); replace XT := Aside0.mk (XT.out.step HEc (F_g.out)); clear BK_g; have BK_g : Aside0 (w32.heap[g]? = some (.cells #[.int .i64 wait, .int .i64 again, .int .i64 pause, .int .i64 t, .int .i64 tk, .slice A3 n3 c3, .pointer (some ⟨s, 0, none⟩), .int .i64 times, .int .i64 last, .map (some m)] 73 (0, 0))) := ⟨hput⟩; clear hput HEc; refine cl10_ BK_g.out ?_; intro lc19_0 lc19_1 lc19_2 lc19_3 lc19_4 lc19_5 lc19_6 lc19_7 lc19_8 lc19_9 lf19_0 lf19_1 lf19_2 lf19_3 lf19_4 lf19_5 lf19_6 lf19_7 lf19_8 lf19_9; refine cl9_ BK_s.out ?_; intro lc20_0 lc20_1 lc20_2 lc20_3 lc20_4 lc20_5 lc20_6 lc20_7 lc20_8 lf20_0 lf20_1 lf20_2 lf20_3 lf20_4 lf20_5 lf20_6 lf20_7 lf20_8)) | ((with_reducible refine gate_store (p := 126) rfl ?_); go_must (refine store_event (w1 := ?_) rfl (p := 126) rfl rfl ?hr ?_; rotate_left; (case hr => go_simp; rfl); intro w33 hw_; obtain ⟨hput, HEc⟩ := put1 (cs' := #[.int .i64 wait, .int .i64 again, .int .i64 pause, .int .i64 t, .int .i64 tk, .slice A3 n3 c3, .pointer (some ⟨s, 0, none⟩), .int .i64 0, .int .i64 last, .map (some m)]) hw_ BK_g.out rfl; clear hw_; replace OB_l := Aside0.mk (ks_mv OB_l.out HEc NE_l_g.out); replace OB_d := Aside0.mk (kd_mv OB_d.out HEc NE_d_g.out); replace KP := Aside0.mk (keeps_set KP.out HEc BK_g.out (.inl rfl)); clear lc19_0 lc19_1 lc19_2 lc19_3 lc19_4 lc19_5 lc19_6 lc19_7 lc19_8 lc19_9 lf19_0 lf19_1 lf19_2 lf19_3 lf19_4 lf19_5 lf19_6 lf19_7 lf19_8 lf19_9 lc20_0 lc20_1 lc20_2 lc20_3 lc20_4 lc20_5 lc20_6 lc20_7 lc20_8 lf20_0 lf20_1 lf20_2 lf20_3 lf20_4 lf20_5 lf20_6 lf20_7 lf20_8; replace BK_s := Aside0.mk (Ext.blk HEc BK_s.out NE_s_g.out); replace MP_m := Aside0.mk (IsMap.ext MP_m.out HEc NE_m_g.out); replace XT := Aside0.mk (XT.out.step HEc (F_g.out)); clear BK_g; have BK_g : Aside0 (w33.heap[g]? = some (.cells #[.int .i64 wait, .int .i64 again, .int .i64 pause, .int .i64 t, .int .i64 tk, .slice A3 n3 c3, .pointer (some ⟨s, 0, none⟩), .int .i64 0, .int .i64 last, .map (some m)] 73 (0, 0))) := ⟨hput⟩; clear hput HEc; refine cl10_ BK_g.out ?_; intro lc21_0 lc21_1 lc21_2 lc21_3 lc21_4 lc21_5 lc21_6 lc21_7 lc21_8 lc21_9 lf21_0 lf21_1 lf21_2 lf21_3 lf21_4 lf21_5 lf21_6 lf21_7 lf21_8 lf21_9; refine cl9_ BK_s.out ?_; intro lc22_0 lc22_1 lc22_2 lc22_3 lc22_4 lc22_5 lc22_6 lc22_7 lc22_8 lf22_0 lf22_1 lf22_2 lf22_3 lf22_4 lf22_5 lf22_6 lf22_7 lf22_8)))
  clear lc21_0 lc21_1 lc21_2 lc21_3 lc21_4 lc21_5 lc21_6 lc21_7 lc21_8 lc21_9 lf21_0 lf21_1 lf21_2 lf21_3 lf21_4 lf21_5 lf21_6 lf21_7 lf21_8 lf21_9 lc22_0 lc22_1 lc22_2 lc22_3 lc22_4 lc22_5 lc22_6 lc22_7 lc22_8 lf22_0 lf22_1 lf22_2 lf22_3 lf22_4 lf22_5 lf22_6 lf22_7 lf22_8
  have HIa : Aside0 (IsM B w33 g m ⟨wait, again, pause, t, tk, (pre ++ post), some y, 0, last, (fun k => if k = x.u then wrap64 (t + pause) else rest k)⟩) := ⟨⟨⟨_, _, BK_g.out, OB_l.out, ⟨s, rfl, BK_s.out, BG_s.out, NE_l_s.out⟩⟩, ⟨_, _, MP_m.out, HF.out⟩⟩⟩
  have HBC : Aside0 (B ≤ w33.heap.size) := ⟨Nat.le_trans HBW.out XT.out.size⟩
  go_wp2_with (first | (go_at_call 32; go_must (refine (send_f HIa.out HBC.out (KP.out.row HV1.out) HVL.out).mono ?_; rintro e w34 ⟨A', k', rfl, hkc, hin, HI2, HX, HK⟩; have HKC := Aside0.mk hkc; clear hkc; have HI2 := Aside0.mk HI2; have HX := Aside0.mk HX; have HK := Aside0.mk HK; have HIN := Aside0.mk hin; clear hin; have OBn : Aside0 (OwnE kd (fun _ => False) 48 B w34 v9 ([x.t])) := ⟨kd_mv OB_d.out HX.out NE_d_g.out⟩; clear OB_d; have OB_d := OBn; clear OBn)) | ((with_reducible refine gate_dst (N := 129) rfl ?_); go_must (refine bs_ev (N := 129) ?hg ?hd (cs := #[.int .i64 y.t, .int .i64 y.u, .int .i64 y.f, .int .i64 y.a, .int .i64 y.c, .slice A' y.l k', .int .i64 y.o, .int .i64 y.n, .int .i64 y.r]) (t := 39) (n := 1) ?hr ?_; (case hd => rfl); (case hg => rfl); (case hr => first | (go_simp; done) | (go_simp; rfl)); intro ga hg w35 hbox HBc; have HBOX := Aside0.mk hbox; have HBE := Aside0.mk HBc; clear hbox HBc hg)))
  try rw [Exit.noGoto_ret]
  go_ret3
  exact ⟨_, _, rfl, A', k', sent_mk HBOX.out, done_mk (kd_mv OB_d.out (Ext.none_ HBE.out) (fun _ _ e => e)), HKC.out, irow_below HIN.out HBE.out, HI2.out.below HBE.out, ((HBB.out.trans XT.out).trans (extg HX.out)).trans (Ext.of_below HBE.out), ((HKG.out.trans KP.out).trans HK.out).trans (keeps_below HBE.out)⟩
set_option maxHeartbeats 4000000 in
set_option maxRecDepth 100000 in
theorem step_late_stay {B : Nat} {w : World} {g m : Nat} {wait again pause now tk times last : Int} {rest : Int → Int} {line : List (SV)} {x : SV} (h : IsM B w g m ⟨wait, again, pause, now, tk, line, some x, times, last, rest⟩) (hB : B ≤ w.heap.size) (t : Int) (h0 : 0 ≤ t) (h1 : now ≤ t) (hq : wait ≤ wrap64 (t - last)) (hr : again < times) (hs1 : ∀ z ∈ line, t < (if z.u = x.u then wrap64 (t + pause) else rest z.u)) (hl : line.length ≤ 1000) : Calls Try.prog 12 #[.pointer (some ⟨g, 0, none⟩), .int .i64 t] w fun e w' => ∃ va vd, e = .returned (.tuple #[va, vd, .int .i64 0]) ∧ StepN B w w' g m (some x.t) ⟨wait, again, pause, t, tk, line, none, times, last, (fun k => if k = x.u then wrap64 (t + pause) else rest k)⟩ va vd := by
 have H := Aside0.mk h; have HB := Aside0.mk hB; have T0 := Aside0.mk h0; have T1 := Aside0.mk h1
 have q5 : decide (wait ≤ wrap64 (t - last)) = true := decide_eq_true hq
 have q6 : decide (times ≤ again) = false := decide_eq_false (by omega)
 have HS1 := Aside0.mk hs1; have HLX := Aside0.mk hl; clear hs1 hl
 clear h hB h0 h1 hq hr
 have hu39 := Try.underlying39; have hu48 := Try.underlying48
 go_enter Try.func12, Try.ntmps12
 go_wp2_with (fail)
 go_step3
 go_upto_region 5 with (go_at_call 31; go_must (refine (goon_f H.out HB.out t T0.out T1.out).mono ?_; rintro e w1 ⟨rfl, HI, HXg, HKg⟩; have HI := Aside0.mk HI; have HBB : Aside0 (Ext (Gm g m) w w1) := ⟨extg HXg⟩; have HKG := Aside0.mk HKg; clear HXg HKg))
 clear H
 have HBW : Aside0 (B ≤ w1.heap.size) := ⟨Nat.le_trans HB.out HBB.out.size⟩
 obtain ⟨⟨vl, vo, hb, hl, ho⟩, ⟨f, n, hm, hf⟩⟩ := HI.out
 clear HI
 obtain ⟨go, rfl, hgo, bgo, nlo⟩ := ho
 have BK_g : Aside0 (w1.heap[g]? = some (.cells #[.int .i64 wait, .int .i64 again, .int .i64 pause, .int .i64 t, .int .i64 tk, vl, .pointer (some ⟨go, 0, none⟩), .int .i64 times, .int .i64 last, .map (some m)] 73 (0, 0))) := ⟨hb⟩
 have OB_l : Aside0 (OwnE ks (fun _ => False) 39 B w1 vl (line)) := ⟨hl⟩
 have MP_m := Aside0.mk hm; have HF := Aside0.mk hf
 have NE_l_g : Aside0 (∀ k, (vl).ownBlock = some k → k ≠ g) := ⟨ks_ne hl hb (by decide)⟩; have NE_l_m : Aside0 (∀ k, (vl).ownBlock = some k → k ≠ m) := ⟨ks_nm hl hm⟩; have NE_g_m : Aside0 (g ≠ m) := ⟨cell_nm hb hm⟩; have NE_m_g : Aside0 (m ≠ g) := ⟨fun e => NE_g_m.out e.symm⟩; have F_g : Aside0 (∀ k, k = g → Gm g m k ∨ w1.heap.size ≤ k) := ⟨fun k e => .inl (.inl e)⟩; have F_m : Aside0 (∀ k, k = m → Gm g m k ∨ w1.heap.size ≤ k) := ⟨fun k e => .inl (.inr e)⟩
 have BK_go : Aside0 (w1.heap[go]? = some (.cells #[.int .i64 x.t, .int .i64 x.u, .int .i64 x.f, .int .i64 x.a, .int .i64 x.c, .slice x.A x.l x.k, .int .i64 x.o, .int .i64 x.n, .int .i64 x.r] 39 (0, 0))) := ⟨hgo⟩; have BGO := Aside0.mk bgo; have NE_l_go : Aside0 (∀ k, (vl).ownBlock = some k → k ≠ go) := ⟨nlo⟩; have NE_go_g : Aside0 (go ≠ g) := ⟨blk_ne hgo hb (by decide)⟩; have NE_g_go : Aside0 (g ≠ go) := ⟨fun e => NE_go_g.out e.symm⟩; have NE_go_m : Aside0 (go ≠ m) := ⟨cell_nm hgo hm⟩; have NE_m_go : Aside0 (m ≠ go) := ⟨fun e => NE_go_m.out e.symm⟩; clear hgo bgo nlo
 clear hb hl hm hf
 obtain ⟨A, nl, c, e, hn, hcap⟩ := row_n OB_l.out
 obtain rfl : vl = (Value.slice A nl c) := e
 have HCAP := Aside0.mk hcap; have HN := Aside0.mk hn; clear hcap hn
 have XT : Aside0 (Ext (Gm g m) w1 w1) := ⟨Ext.refl _ _⟩
 refine cl10_ BK_g.out ?_; intro lc1_0 lc1_1 lc1_2 lc1_3 lc1_4 lc1_5 lc1_6 lc1_7 lc1_8 lc1_9 lf1_0 lf1_1 lf1_2 lf1_3 lf1_4 lf1_5 lf1_6 lf1_7 lf1_8 lf1_9
 refine cl9_ BK_go.out ?_; intro lc2_0 lc2_1 lc2_2 lc2_3 lc2_4 lc2_5 lc2_6 lc2_7 lc2_8 lf2_0 lf2_1 lf2_2 lf2_3 lf2_4 lf2_5 lf2_6 lf2_7 lf2_8
 have KP : Aside0 (Keeps w1 w1) := ⟨fun _ _ _ h _ _ => h⟩
 clear lc1_0 lc1_1 lc1_2 lc1_3 lc1_4 lc1_5 lc1_6 lc1_7 lc1_8 lc1_9 lf1_0 lf1_1 lf1_2 lf1_3 lf1_4 lf1_5 lf1_6 lf1_7 lf1_8 lf1_9 lc2_0 lc2_1 lc2_2 lc2_3 lc2_4 lc2_5 lc2_6 lc2_7 lc2_8 lf2_0 lf2_1 lf2_2 lf2_3 lf2_4 lf2_5 lf2_6 lf2_7 lf2_8
 refine start_ (n := 18) (S := fun W => W.cell? ⟨g, 6, none⟩ = some (.pointer (some ⟨go, 0, none⟩)) ∧ W.cell? ⟨g, 8, none⟩ = some (.int .i64 last) ∧ W.cell? ⟨g, 0, none⟩ = some (.int .i64 wait)) (ds := []) (fl 18 0) (by kernel_rfl) rfl (by kernel_rfl) ?_ (fun hHeld => ?_)
 ·exact ⟨(blk_cell (bk_ BK_g) 6).trans rfl, (blk_cell (bk_ BK_g) 8).trans rfl, (blk_cell (bk_ BK_g) 0).trans rfl⟩
 refine pu_ 0 17 (fl 18 1) rfl rfl (by kernel_rfl) ?_
 refine pu_ 1 18 (fl 18 3) rfl rfl (by kernel_rfl) ?_
 refine pu_ 2 19 (fl 18 7) rfl rfl (by kernel_rfl) ?_
 refine tk_ 3 20 (fl 18 15) rfl rfl (by kernel_rfl) hHeld ?_
 refine pu_ 4 21 (fl 18 31) rfl rfl (by kernel_rfl) ?_
 refine pu_ 5 22 (fl 18 63) rfl rfl (by kernel_rfl) ?_
 refine pu_ 6 23 (fl 18 127) rfl rfl (by kernel_rfl) ?_
 refine pu_ 7 24 (fl 18 255) rfl rfl (by kernel_rfl) ?_
 refine pu_ 8 25 (fl 18 511) rfl rfl (by kernel_rfl) ?_
 refine pu_ 9 26 (fl 18 1023) rfl rfl (by kernel_rfl) ?_
 refine tk_ 10 27 (fl 18 2047) rfl rfl (by kernel_rfl) hHeld ?_
 refine pu_ 11 28 (fl 18 4095) rfl rfl (by kernel_rfl) ?_
 refine pu_ 12 29 (fl 18 8191) rfl rfl (by kernel_rfl) ?_
 refine pu_ 13 30 (fl 18 16383) rfl rfl (by kernel_rfl) ?_
 refine pu_ 14 31 (fl 18 32767) rfl rfl (by kernel_rfl) ?_
 refine tk_ 15 32 (fl 18 65535) rfl rfl (by kernel_rfl) hHeld ?_
 refine pu_ 16 33 (fl 18 131071) rfl rfl (by kernel_rfl) ?_
 refine pu_ 17 34 (fl 18 262143) rfl rfl (by kernel_rfl) ?_
 refine done_ (by kernel_rfl) ?_
 generalize hwd : World.drew w1 = w2
 have HBc : Below w1.heap.size w1 w2 := (by rw [← hwd]; exact below_drew (Below.refl _ _))
 clear hwd
 replace OB_l := Aside0.mk (ks_mv OB_l.out (Ext.none_ HBc) (fun _ _ e => e))
 replace KP := Aside0.mk (keeps_then KP.out HBc)
 replace BK_g := Aside0.mk (Ext.blk (Ext.none_ HBc) BK_g.out (fun e => e))
 replace BK_go := Aside0.mk (Ext.blk (Ext.none_ HBc) BK_go.out (fun e => e))
 replace MP_m := Aside0.mk (IsMap.ext MP_m.out (Ext.none_ HBc) (fun e => e))
 replace XT := Aside0.mk (XT.out.stepB HBc)
 clear HBc
 refine cl10_ BK_g.out ?_; intro lc3_0 lc3_1 lc3_2 lc3_3 lc3_4 lc3_5 lc3_6 lc3_7 lc3_8 lc3_9 lf3_0 lf3_1 lf3_2 lf3_3 lf3_4 lf3_5 lf3_6 lf3_7 lf3_8 lf3_9
 refine cl9_ BK_go.out ?_; intro lc4_0 lc4_1 lc4_2 lc4_3 lc4_4 lc4_5 lc4_6 lc4_7 lc4_8 lf4_0 lf4_1 lf4_2 lf4_3 lf4_4 lf4_5 lf4_6 lf4_7 lf4_8
 go_upto_region 6 with (fail)
 clear lc3_0 lc3_1 lc3_2 lc3_3 lc3_4 lc3_5 lc3_6 lc3_7 lc3_8 lc3_9 lf3_0 lf3_1 lf3_2 lf3_3 lf3_4 lf3_5 lf3_6 lf3_7 lf3_8 lf3_9 lc4_0 lc4_1 lc4_2 lc4_3 lc4_4 lc4_5 lc4_6 lc4_7 lc4_8 lf4_0 lf4_1 lf4_2 lf4_3 lf4_4 lf4_5 lf4_6 lf4_7 lf4_8
 refine start_ (n := 9) (S := fun W => W.cell? ⟨g, 7, none⟩ = some (.int .i64 times) ∧ W.cell? ⟨g, 1, none⟩ = some (.int .i64 again)) (ds := []) (fl 9 0) (by kernel_rfl) rfl (by kernel_rfl) ?_ (fun hHeld => ?_)
 ·exact ⟨(blk_cell (bk_ BK_g) 7).trans rfl, (blk_cell (bk_ BK_g) 1).trans rfl⟩
 refine pu_ 0 35 (fl 9 1) rfl rfl (by kernel_rfl) ?_
 refine pu_ 1 36 (fl 9 3) rfl rfl (by kernel_rfl) ?_
 refine pu_ 2 37 (fl 9 7) rfl rfl (by kernel_rfl) ?_
 refine tk_ 3 38 (fl 9 15) rfl rfl (by kernel_rfl) hHeld ?_
 refine pu_ 4 39 (fl 9 31) rfl rfl (by kernel_rfl) ?_
 refine pu_ 5 40 (fl 9 63) rfl rfl (by kernel_rfl) ?_
 refine pu_ 6 41 (fl 9 127) rfl rfl (by kernel_rfl) ?_
 refine tk_ 7 42 (fl 9 255) rfl rfl (by kernel_rfl) hHeld ?_
 refine pu_ 8 43 (fl 9 511) rfl rfl (by kernel_rfl) ?_
 refine done_ (by kernel_rfl) ?_
 generalize hwd : World.drew w2 = w3
 have HBc : Below w2.heap.size w2 w3 := (by rw [← hwd]; exact below_drew (Below.refl _ _))
 clear hwd
 replace OB_l := Aside0.mk (ks_mv OB_l.out (Ext.none_ HBc) (fun _ _ e => e))
 replace KP := Aside0.mk (keeps_then KP.out HBc)
 replace BK_g := Aside0.mk (Ext.blk (Ext.none_ HBc) BK_g.out (fun e => e))
 replace BK_go := Aside0.mk (Ext.blk (Ext.none_ HBc) BK_go.out (fun e => e))
 replace MP_m := Aside0.mk (IsMap.ext MP_m.out (Ext.none_ HBc) (fun e => e))
 replace XT := Aside0.mk (XT.out.stepB HBc)
 clear HBc
 refine cl10_ BK_g.out ?_; intro lc5_0 lc5_1 lc5_2 lc5_3 lc5_4 lc5_5 lc5_6 lc5_7 lc5_8 lc5_9 lf5_0 lf5_1 lf5_2 lf5_3 lf5_4 lf5_5 lf5_6 lf5_7 lf5_8 lf5_9
 refine cl9_ BK_go.out ?_; intro lc6_0 lc6_1 lc6_2 lc6_3 lc6_4 lc6_5 lc6_6 lc6_7 lc6_8 lf6_0 lf6_1 lf6_2 lf6_3 lf6_4 lf6_5 lf6_6 lf6_7 lf6_8
 go_upto_region 9 with (((with_reducible refine gate_builtin (b := .append) (xs := #[.tmp 47, .tmp 56]) rfl ?_); go_must (refine ev_append kd (M := fun _ => False) (w0 := w3) B rfl (.tmp 47) (.tmp 56) 35 48 (.agg #[.int .i64 0, .slice none 0 0, .int .i64 0, .bool false]) 48 rfl Try.underlying35 info48 rfl (by decide) (by decide) (.slice none 0 0) [] x.t [.int .i64 x.t, .slice none 0 0, .int .i64 0, .bool true] rfl rfl (OwnE.nil _ _ _ _ _) (Ever.triv (p := _ = dc _) rfl) (Below.refl _ _) (Nat.le_trans HBW.out XT.out.size) (by simp) ?_; intro v9 w4 HO9 HB9 hg9 hat9; have HBc : Below w3.heap.size w3 w4 := ⟨hg9.os, hg9.tape, hg9.output, hg9.size, fun i hi => hg9.block i hi (by simp [Value.ownBlock])⟩; replace OB_l := Aside0.mk (ks_mv OB_l.out (Ext.none_ HBc) (fun _ _ e => e)); replace KP := Aside0.mk (keeps_then KP.out HBc); clear lc5_0 lc5_1 lc5_2 lc5_3 lc5_4 lc5_5 lc5_6 lc5_7 lc5_8 lc5_9 lf5_0 lf5_1 lf5_2 lf5_3 lf5_4 lf5_5 lf5_6 lf5_7 lf5_8 lf5_9 lc6_0 lc6_1 lc6_2 lc6_3 lc6_4 lc6_5 lc6_6 lc6_7 lc6_8 lf6_0 lf6_1 lf6_2 lf6_3 lf6_4 lf6_5 lf6_6 lf6_7 lf6_8; replace BK_g := Aside0.mk (Ext.blk (Ext.none_ HBc) BK_g.out (fun e => e)); replace BK_go := Aside0.mk (Ext.blk (Ext.none_ HBc) BK_go.out (fun e => e)); replace MP_m := Aside0.mk (IsMap.ext MP_m.out (Ext.none_ HBc) (fun e => e)); replace XT := Aside0.mk (XT.out.stepB HBc); have OB_d : Aside0 (OwnE kd (fun _ => False) 48 B w4 v9 ([x.t])) := ⟨HO9⟩; have NE_d_g : Aside0 (∀ k, (v9).ownBlock = some k → k ≠ g) := ⟨kd_ne HO9 BK_g.out (by decide)⟩; have NE_d_m : Aside0 (∀ k, (v9).ownBlock = some k → k ≠ m) := ⟨kd_nm HO9 MP_m.out⟩; clear HO9 HB9 hg9 hat9 HBc)))
 refine start_ (n := 18) (S := fun W => W.cell? ⟨g, 9, none⟩ = some (.map (some m)) ∧ W.cell? ⟨g, 6, none⟩ = some (.pointer (some ⟨go, 0, none⟩)) ∧ W.cell? ⟨g, 2, none⟩ = some (.int .i64 pause) ∧ W.cell? ⟨go, 1, none⟩ = some (.int .i64 x.u)) (ds := [17]) (fl 18 0) (by kernel_rfl) rfl (by kernel_rfl) ?_ (fun hHeld => ?_)
 ·exact ⟨(blk_cell (bk_ BK_g) 9).trans rfl, (blk_cell (bk_ BK_g) 6).trans rfl, (blk_cell (bk_ BK_g) 2).trans rfl, (blk_cell (bk_ BK_go) 1).trans rfl⟩
 refine pu_ 0 58 (fl 18 1) rfl rfl (by kernel_rfl) ?_
 refine pu_ 1 59 (fl 18 3) rfl rfl (by kernel_rfl) ?_
 refine pu_ 2 60 (fl 18 7) rfl rfl (by kernel_rfl) ?_
 refine tk_ 3 61 (fl 18 15) rfl rfl (by kernel_rfl) hHeld ?_
 refine pu_ 4 62 (fl 18 31) rfl rfl (by kernel_rfl) ?_
 refine pu_ 5 63 (fl 18 63) rfl rfl (by kernel_rfl) ?_
 refine pu_ 6 64 (fl 18 127) rfl rfl (by kernel_rfl) ?_
 refine tk_ 7 65 (fl 18 255) rfl rfl (by kernel_rfl) hHeld ?_
 refine pu_ 8 66 (fl 18 511) rfl rfl (by kernel_rfl) ?_
 refine pu_ 9 67 (fl 18 1023) rfl rfl (by kernel_rfl) ?_
 refine tk_ 10 68 (fl 18 2047) rfl rfl (by kernel_rfl) hHeld ?_
 refine pu_ 11 69 (fl 18 4095) rfl rfl (by kernel_rfl) ?_
 refine pu_ 12 70 (fl 18 8191) rfl rfl (by kernel_rfl) ?_
 refine pu_ 13 71 (fl 18 16383) rfl rfl (by kernel_rfl) ?_
 refine pu_ 14 72 (fl 18 32767) rfl rfl (by kernel_rfl) ?_
 refine tk_ 15 73 (fl 18 65535) rfl rfl (by kernel_rfl) hHeld ?_
 refine pu_ 16 74 (fl 18 131071) rfl rfl (by kernel_rfl) ?_
 refine last_ (i := 17) (N := none) (fl 18 262143) rfl rfl (by kernel_rfl) (by decide) (fun K hK => ?_)
 refine upd_step (k := x.u) (v := .int .i64 (wrap64 (t + pause))) (by rfl) rfl rfl (MP_m.out.ext (Ext.none_ (by repeat (first | exact Below.refl _ _ | apply pw_below_drewN | apply below_drew1))) (fun e => e)) Try.underlying70 Try.underlying3 ?hx ?hy ?hz ?_
 case hx => rfl
 case hy => rfl
 case hz => rfl
 intro w5 hup HEc0
 have HEc : Ext (fun k => k = m) w4 w5 := (Ext.of_below (by repeat (first | exact Below.refl _ _ | apply pw_below_drewN | apply below_drew1))).trans HEc0
 clear HEc0
 replace OB_l := Aside0.mk (ks_mv OB_l.out HEc NE_l_m.out)
 replace OB_d := Aside0.mk (kd_mv OB_d.out HEc NE_d_m.out)
 replace KP := Aside0.mk (keeps_setm KP.out HEc MP_m.out)
 replace BK_g := Aside0.mk (Ext.blk HEc BK_g.out NE_g_m.out)
 replace BK_go := Aside0.mk (Ext.blk HEc BK_go.out NE_go_m.out)
 replace XT := Aside0.mk (XT.out.step HEc (F_m.out))
 clear MP_m
 have MP_m : Aside0 (IsMap w5 m (fun j => if j = x.u then some (.int .i64 (wrap64 (t + pause))) else f j) (n + 1)) := ⟨hup⟩
 have HFn := Aside0.mk (upd_hf HF.out x.u (wrap64 (t + pause)))
 clear HF hup HEc
 have HF := HFn; clear HFn
 refine hK.out _ _ ?_
 clear hK K
 refine done_ (by kernel_rfl) ?_
 refine cl10_ BK_g.out ?_; intro lc7_0 lc7_1 lc7_2 lc7_3 lc7_4 lc7_5 lc7_6 lc7_7 lc7_8 lc7_9 lf7_0 lf7_1 lf7_2 lf7_3 lf7_4 lf7_5 lf7_6 lf7_7 lf7_8 lf7_9
 refine cl9_ BK_go.out ?_; intro lc8_0 lc8_1 lc8_2 lc8_3 lc8_4 lc8_5 lc8_6 lc8_7 lc8_8 lf8_0 lf8_1 lf8_2 lf8_3 lf8_4 lf8_5 lf8_6 lf8_7 lf8_8
 go_wp2_with (((with_reducible refine gate_store (p := 77) rfl ?_); go_must (refine store_event (w1 := ?_) rfl (p := 77) rfl rfl ?hr ?_; rotate_left; (case hr => go_simp; rfl); intro w6 hw_; obtain ⟨hput, HEc⟩ := put1 (cs' := #[.int .i64 wait, .int .i64 again, .int .i64 pause, .int .i64 t, .int .i64 tk, .slice A nl c, .pointer none, .int .i64 times, .int .i64 last, .map (some m)]) hw_ BK_g.out rfl; clear hw_; replace OB_l := Aside0.mk (ks_mv OB_l.out HEc NE_l_g.out); replace OB_d := Aside0.mk (kd_mv OB_d.out HEc NE_d_g.out); replace KP := Aside0.mk (keeps_set KP.out HEc BK_g.out (.inl rfl)); clear lc7_0 lc7_1 lc7_2 lc7_3 lc7_4 lc7_5 lc7_6 lc7_7 lc7_8 lc7_9 lf7_0 lf7_1 lf7_2 lf7_3 lf7_4 lf7_5 lf7_6 lf7_7 lf7_8 lf7_9 lc8_0 lc8_1 lc8_2 lc8_3 lc8_4 lc8_5 lc8_6 lc8_7 lc8_8 lf8_0 lf8_1 lf8_2 lf8_3 lf8_4 lf8_5 lf8_6 lf8_7 lf8_8; replace BK_go := Aside0.mk (Ext.blk HEc BK_go.out NE_go_g.out); replace MP_m := Aside0.mk (IsMap.ext MP_m.out HEc NE_m_g.out); replace XT := Aside0.mk (XT.out.step HEc (F_g.out)); clear BK_g; have BK_g : Aside0 (w6.heap[g]? = some (.cells #[.int .i64 wait, .int .i64 again, .int .i64 pause, .int .i64 t, .int .i64 tk, .slice A nl c, .pointer none, .int .i64 times, .int .i64 last, .map (some m)] 73 (0, 0))) := ⟨hput⟩; clear hput HEc; refine cl10_ BK_g.out ?_; intro lc9_0 lc9_1 lc9_2 lc9_3 lc9_4 lc9_5 lc9_6 lc9_7 lc9_8 lc9_9 lf9_0 lf9_1 lf9_2 lf9_3 lf9_4 lf9_5 lf9_6 lf9_7 lf9_8 lf9_9; refine cl9_ BK_go.out ?_; intro lc10_0 lc10_1 lc10_2 lc10_3 lc10_4 lc10_5 lc10_6 lc10_7 lc10_8 lf10_0 lf10_1 lf10_2 lf10_3 lf10_4 lf10_5 lf10_6 lf10_7 lf10_8)))
 go_step3
 clear lc9_0 lc9_1 lc9_2 lc9_3 lc9_4 lc9_5 lc9_6 lc9_7 lc9_8 lc9_9 lf9_0 lf9_1 lf9_2 lf9_3 lf9_4 lf9_5 lf9_6 lf9_7 lf9_8 lf9_9 lc10_0 lc10_1 lc10_2 lc10_3 lc10_4 lc10_5 lc10_6 lc10_7 lc10_8 lf10_0 lf10_1 lf10_2 lf10_3 lf10_4 lf10_5 lf10_6 lf10_7 lf10_8
 clear BK_go NE_l_go NE_go_g NE_g_go NE_go_m NE_m_go BGO
 refine cl10_ BK_g.out ?_; intro lc11_0 lc11_1 lc11_2 lc11_3 lc11_4 lc11_5 lc11_6 lc11_7 lc11_8 lc11_9 lf11_0 lf11_1 lf11_2 lf11_3 lf11_4 lf11_5 lf11_6 lf11_7 lf11_8 lf11_9
 go_wp2_with (fail)
 go_loopw [89] (fun v wr => ∃ i : Nat, v = .int .i64 (i : Int) ∧ i ≤ nl ∧ Aside0 (wr.heap[g]? = some (.cells #[.int .i64 wait, .int .i64 again, .int .i64 pause, .int .i64 t, .int .i64 tk, .slice A nl c, .pointer none, .int .i64 times, .int .i64 last, .map (some m)] 73 (0, 0))) ∧ Aside0 (IsMap wr m (fun j => if j = x.u then some (.int .i64 (wrap64 (t + pause))) else f j) (n + 1)) ∧ Aside0 (Ext (Gm g m) w1 wr) ∧ Aside0 (OwnE ks (fun _ => False) 39 B wr (Value.slice A nl c) (line)) ∧ Aside0 (OwnE kd (fun _ => False) 48 B wr v9 ([x.t])) ∧ Aside0 (Keeps w1 wr)) (fun v _ => nl + 1 - (intOf v).toNat)
 case atStart => exact ⟨0, rfl, Nat.zero_le _, BK_g, MP_m, XT, OB_l, OB_d, KP⟩
 case round =>
  clear BK_g MP_m XT OB_l OB_d KP lc11_0 lc11_1 lc11_2 lc11_3 lc11_4 lc11_5 lc11_6 lc11_7 lc11_8 lc11_9 lf11_0 lf11_1 lf11_2 lf11_3 lf11_4 lf11_5 lf11_6 lf11_7 lf11_8 lf11_9
  obtain ⟨i, rfl, hle, BK_g, MP_m, XT, OB_l, OB_d, KP⟩ := hrel
  by_cases hlt : i < nl
  ·have HLT := Aside0.mk hlt
   have hin := hlt
   have HIN_ := Aside0.mk hin
   obtain ⟨z, hzm, hz⟩ := get_in (l := line) (i := i) (by rw [HN.out]; exact hlt)
   obtain ⟨ad, ead, hat⟩ := row_i OB_l.out hz; subst ead
   have hsz := HS1.out z hzm
   refine cl10_ BK_g.out ?_; intro lc12_0 lc12_1 lc12_2 lc12_3 lc12_4 lc12_5 lc12_6 lc12_7 lc12_8 lc12_9 lf12_0 lf12_1 lf12_2 lf12_3 lf12_4 lf12_5 lf12_6 lf12_7 lf12_8 lf12_9
   have c0 : decide ((i : Int) < (nl : Int)) = true := decide_eq_true (by omega); have c0n : decide (i < nl) = true := decide_eq_true hin
   obtain ⟨rv, hrv⟩ : ∃ r : Int, r = (if z.u = x.u then wrap64 (t + pause) else rest z.u) := ⟨_, rfl⟩
   rw [← hrv] at hsz
   have q7 : decide (t < rv) = true := decide_eq_true hsz
   have HRV := Aside0.mk hrv; clear hrv hsz hzm hz
   unfold At at hat
   obtain ⟨lr0, lr1, lr2, lr3, lr4, lr5, lr6, lr7, lr8⟩ := hat
   go_upto_region 16 with (first | ((with_reducible refine gate_dst (N := 10) rfl ?_); go_must (refine bx_ (N := 10) (cs := #[.int .i64 0, .int .i64 0, .int .i64 0, .int .i64 0, .int .i64 0, .slice none 0 0, .int .i64 0, .int .i64 0, .int .i64 0]) (t := 39) ?_; intro s hg w7 hbox HBc; have NE_l_s : Aside0 (∀ k, ((Value.slice (some ad) nl c)).ownBlock = some k → k ≠ s) := ⟨fun k hk e => by have := OwnE.lt OB_l.out k hk; omega⟩; have NE_d_s : Aside0 (∀ k, (v9).ownBlock = some k → k ≠ s) := ⟨fun k hk e => by have := OwnE.lt OB_d.out k hk; omega⟩; have NE_g_s : Aside0 (g ≠ s) := ⟨ne_born (blk_lt BK_g.out) hg⟩; have NE_s_g : Aside0 (s ≠ g) := ⟨fun e => NE_g_s.out e.symm⟩; have NE_m_s : Aside0 (m ≠ s) := ⟨ne_born (IsMap.lt MP_m.out) hg⟩; have NE_s_m : Aside0 (s ≠ m) := ⟨fun e => NE_m_s.out e.symm⟩; have F_s : Aside0 (∀ k, k = s → (Gm g m) k ∨ w1.heap.size ≤ k) := ⟨fnew hg XT.out.size⟩; have RG_s : Aside0 (w1.heap.size ≤ s) := ⟨Nat.le_trans XT.out.size (Nat.le_of_eq hg.symm)⟩; have BG_s : Aside0 (B ≤ s) := ⟨Nat.le_trans HBW.out RG_s.out⟩; clear hg; replace OB_l := Aside0.mk (ks_mv OB_l.out (Ext.none_ HBc) (fun _ _ e => e)); replace OB_d := Aside0.mk (kd_mv OB_d.out (Ext.none_ HBc) (fun _ _ e => e)); replace KP := Aside0.mk (keeps_then KP.out HBc); clear lc12_0 lc12_1 lc12_2 lc12_3 lc12_4 lc12_5 lc12_6 lc12_7 lc12_8 lc12_9 lf12_0 lf12_1 lf12_2 lf12_3 lf12_4 lf12_5 lf12_6 lf12_7 lf12_8 lf12_9; replace BK_g := Aside0.mk (Ext.blk (Ext.none_ HBc) BK_g.out (fun e => e)); replace MP_m := Aside0.mk (IsMap.ext MP_m.out (Ext.none_ HBc) (fun e => e)); replace XT := Aside0.mk (XT.out.stepB HBc); have BK_s : Aside0 (w7.heap[s]? = some (.cells #[.int .i64 0, .int .i64 0, .int .i64 0, .int .i64 0, .int .i64 0, .slice none 0 0, .int .i64 0, .int .i64 0, .int .i64 0] 39 (0, 0))) := ⟨hbox⟩; clear hbox HBc; refine cl10_ BK_g.out ?_; intro lc13_0 lc13_1 lc13_2 lc13_3 lc13_4 lc13_5 lc13_6 lc13_7 lc13_8 lc13_9 lf13_0 lf13_1 lf13_2 lf13_3 lf13_4 lf13_5 lf13_6 lf13_7 lf13_8 lf13_9; refine cl9_ BK_s.out ?_; intro lc14_0 lc14_1 lc14_2 lc14_3 lc14_4 lc14_5 lc14_6 lc14_7 lc14_8 lf14_0 lf14_1 lf14_2 lf14_3 lf14_4 lf14_5 lf14_6 lf14_7 lf14_8)) | ((with_reducible refine gate_store (p := 10) rfl ?_); go_must (refine store_event (w1 := ?_) rfl (p := 10) rfl rfl ?hr ?_; rotate_left; (case hr => go_simp; rfl); intro w8 hw_; have hput : w8.heap[s]? = some (.cells #[.int .i64 z.t, .int .i64 z.u, .int .i64 z.f, .int .i64 z.a, .int .i64 z.c, .slice z.A z.l z.k, .int .i64 z.o, .int .i64 z.n, .int .i64 z.r] 39 (0, 0)) := (by rw [hw_]; refine blk_put (cs := #[.int .i64 z.t, .int .i64 z.u, .int .i64 z.f, .int .i64 z.a, .int .i64 z.c, .slice z.A z.l z.k, .int .i64 z.o, .int .i64 z.n, .int .i64 0]) ?_ 8 _ rfl; refine blk_put (cs := #[.int .i64 z.t, .int .i64 z.u, .int .i64 z.f, .int .i64 z.a, .int .i64 z.c, .slice z.A z.l z.k, .int .i64 z.o, .int .i64 0, .int .i64 0]) ?_ 7 _ rfl; refine blk_put (cs := #[.int .i64 z.t, .int .i64 z.u, .int .i64 z.f, .int .i64 z.a, .int .i64 z.c, .slice z.A z.l z.k, .int .i64 0, .int .i64 0, .int .i64 0]) ?_ 6 _ rfl; refine blk_put (cs := #[.int .i64 z.t, .int .i64 z.u, .int .i64 z.f, .int .i64 z.a, .int .i64 z.c, .slice none 0 0, .int .i64 0, .int .i64 0, .int .i64 0]) ?_ 5 _ rfl; refine blk_put (cs := #[.int .i64 z.t, .int .i64 z.u, .int .i64 z.f, .int .i64 z.a, .int .i64 0, .slice none 0 0, .int .i64 0, .int .i64 0, .int .i64 0]) ?_ 4 _ rfl; refine blk_put (cs := #[.int .i64 z.t, .int .i64 z.u, .int .i64 z.f, .int .i64 0, .int .i64 0, .slice none 0 0, .int .i64 0, .int .i64 0, .int .i64 0]) ?_ 3 _ rfl; refine blk_put (cs := #[.int .i64 z.t, .int .i64 z.u, .int .i64 0, .int .i64 0, .int .i64 0, .slice none 0 0, .int .i64 0, .int .i64 0, .int .i64 0]) ?_ 2 _ rfl; refine blk_put (cs := #[.int .i64 z.t, .int .i64 0, .int .i64 0, .int .i64 0, .int .i64 0, .slice none 0 0, .int .i64 0, .int .i64 0, .int .i64 0]) ?_ 1 _ rfl; refine blk_put (cs := #[.int .i64 0, .int .i64 0, .int .i64 0, .int .i64 0, .int .i64 0, .slice none 0 0, .int .i64 0, .int .i64 0, .int .i64 0]) ?_ 0 _ rfl; exact BK_s.out); have HEc : Ext (fun k => k = s) w7 w8 := (by rw [hw_]; exact ((((((((((Ext.refl _ _).setg _).setg _).setg _).setg _).setg _).setg _).setg _).setg _).setg _)); clear hw_; replace OB_l := Aside0.mk (ks_mv OB_l.out HEc NE_l_s.out); replace OB_d := Aside0.mk (kd_mv OB_d.out HEc NE_d_s.out); replace KP := Aside0.mk (keeps_set KP.out HEc BK_s.out (.inr (.inl rfl))); clear lc13_0 lc13_1 lc13_2 lc13_3 lc13_4 lc13_5 lc13_6 lc13_7 lc13_8 lc13_9 lf13_0 lf13_1 lf13_2 lf13_3 lf13_4 lf13_5 lf13_6 lf13_7 lf13_8 lf13_9 lc14_0 lc14_1 lc14_2 lc14_3 lc14_4 lc14_5 lc14_6 lc14_7 lc14_8 lf14_0 lf14_1 lf14_2 lf14_3 lf14_4 lf14_5 lf14_6 lf14_7 lf14_8; replace BK_g := Aside0.mk (Ext.blk HEc BK_g.out NE_g_s.out); replace MP_m := Aside0.mk (IsMap.ext MP_m.out HEc NE_m_s.out); replace XT := Aside0.mk (XT.out.step HEc (F_s.out)); clear BK_s; have BK_s : Aside0 (w8.heap[s]? = some (.cells #[.int .i64 z.t, .int .i64 z.u, .int .i64 z.f, .int .i64 z.a, .int .i64 z.c, .slice z.A z.l z.k, .int .i64 z.o, .int .i64 z.n, .int .i64 z.r] 39 (0, 0))) := ⟨hput⟩; clear hput HEc; refine cl10_ BK_g.out ?_; intro lc15_0 lc15_1 lc15_2 lc15_3 lc15_4 lc15_5 lc15_6 lc15_7 lc15_8 lc15_9 lf15_0 lf15_1 lf15_2 lf15_3 lf15_4 lf15_5 lf15_6 lf15_7 lf15_8 lf15_9; refine cl9_ BK_s.out ?_; intro lc16_0 lc16_1 lc16_2 lc16_3 lc16_4 lc16_5 lc16_6 lc16_7 lc16_8 lf16_0 lf16_1 lf16_2 lf16_3 lf16_4 lf16_5 lf16_6 lf16_7 lf16_8)))
   clear lr0 lr1 lr2 lr3 lr4 lr5 lr6 lr7 lr8
   clear lc15_0 lc15_1 lc15_2 lc15_3 lc15_4 lc15_5 lc15_6 lc15_7 lc15_8 lc15_9 lf15_0 lf15_1 lf15_2 lf15_3 lf15_4 lf15_5 lf15_6 lf15_7 lf15_8 lf15_9 lc16_0 lc16_1 lc16_2 lc16_3 lc16_4 lc16_5 lc16_6 lc16_7 lc16_8 lf16_0 lf16_1 lf16_2 lf16_3 lf16_4 lf16_5 lf16_6 lf16_7 lf16_8
   refine start_ (n := 9) (S := fun W => W.cell? ⟨g, 9, none⟩ = some (.map (some m)) ∧ W.cell? ⟨s, 1, none⟩ = some (.int .i64 z.u)) (ds := []) (fl 9 0) (by kernel_rfl) rfl (by kernel_rfl) ?_ (fun hHeld => ?_)
   ·exact ⟨(blk_cell (bk_ BK_g) 9).trans rfl, (blk_cell (bk_ BK_s) 1).trans rfl⟩
   refine pu_ 0 94 (fl 9 1) rfl rfl (by kernel_rfl) ?_
   refine pu_ 1 95 (fl 9 3) rfl rfl (by kernel_rfl) ?_
   refine pu_ 2 96 (fl 9 7) rfl rfl (by kernel_rfl) ?_
   refine tk_ 3 97 (fl 9 15) rfl rfl (by kernel_rfl) hHeld ?_
   refine pu_ 4 98 (fl 9 31) rfl rfl (by kernel_rfl) ?_
   refine tk_ 5 99 (fl 9 63) rfl rfl (by kernel_rfl) hHeld ?_
   refine pu_ 7 101 (fl 9 191) rfl rfl (by kernel_rfl) ?_
   refine one_ (i := 6) (N := some 100) (fl 9 255) rfl rfl (by kernel_rfl) (by decide) (fun K hK => ?_)
   refine look_step (k := z.u) (v := .int .i64 rv) (by rfl) rfl rfl (MP_m.out.ext (Ext.none_ (by repeat (first | exact Below.refl _ _ | apply pw_below_drewN | apply below_drew1))) (fun e => e)) Try.underlying70 Try.underlying3 zeroI ?hx ?hy ((HF.out z.u).trans (congrArg (Value.int .i64) HRV.out.symm)) ?_
   case hx => rfl
   case hy => rfl
   refine hK.out _ _ ?_ (fun hHeld => ?_)
   ·exact ⟨(blk_cell (bk_ BK_g) 9).trans rfl, (blk_cell (bk_ BK_s) 1).trans rfl⟩
   clear hK K
   refine norm_ (a' := ?_) ?_ ?_
   rotate_left
   ·show Act.put _ (some 100) _ = _
    simp only [Act.put, List.setIfInBounds_toArray, List.set_cons_zero, List.set_cons_succ, i64_w, i32_w]
    rfl
   refine pu_ 8 102 (fl 9 511) rfl rfl (by kernel_rfl) ?_
   refine done_ (by kernel_rfl) ?_
   generalize hwd : World.drew w8 = w9
   have HBc : Below w8.heap.size w8 w9 := (by rw [← hwd]; exact below_drew (Below.refl _ _))
   clear hwd
   replace OB_l := Aside0.mk (ks_mv OB_l.out (Ext.none_ HBc) (fun _ _ e => e))
   replace OB_d := Aside0.mk (kd_mv OB_d.out (Ext.none_ HBc) (fun _ _ e => e))
   replace KP := Aside0.mk (keeps_then KP.out HBc)
   replace BK_g := Aside0.mk (Ext.blk (Ext.none_ HBc) BK_g.out (fun e => e))
   replace BK_s := Aside0.mk (Ext.blk (Ext.none_ HBc) BK_s.out (fun e => e))
   replace MP_m := Aside0.mk (IsMap.ext MP_m.out (Ext.none_ HBc) (fun e => e))
   replace XT := Aside0.mk (XT.out.stepB HBc)
   clear HBc
   refine cl10_ BK_g.out ?_; intro lc17_0 lc17_1 lc17_2 lc17_3 lc17_4 lc17_5 lc17_6 lc17_7 lc17_8 lc17_9 lf17_0 lf17_1 lf17_2 lf17_3 lf17_4 lf17_5 lf17_6 lf17_7 lf17_8 lf17_9
   refine cl9_ BK_s.out ?_; intro lc18_0 lc18_1 lc18_2 lc18_3 lc18_4 lc18_5 lc18_6 lc18_7 lc18_8 lf18_0 lf18_1 lf18_2 lf18_3 lf18_4 lf18_5 lf18_6 lf18_7 lf18_8
   have hw1 : wrap64 ((i : Int) + 1) = (i : Int) + 1 := by have h1 := HIN_.out; have h2 := HLX.out; have h3 := HN.out; rw [h3] at h2; unfold wrap64; omega
   have HW1 := Aside0.mk hw1
   go_wp2
   go_roundw
   case rel => exact ⟨i + 1, congrArg (Value.int .i64) (by first | rfl | exact HW1.out | (rw [HW1.out]; rfl)), HLT.out, BK_g, MP_m, XT, OB_l, OB_d, KP⟩
   case measure => first | exact meas HIN_.out | exact measw HW1.out HIN_.out
  have hie : i = nl := by omega
  clear hle hlt
  subst hie
  have c0 : decide ((i : Int) < (i : Int)) = false := by simp
  refine cl10_ BK_g.out ?_; intro lc12_0 lc12_1 lc12_2 lc12_3 lc12_4 lc12_5 lc12_6 lc12_7 lc12_8 lc12_9 lf12_0 lf12_1 lf12_2 lf12_3 lf12_4 lf12_5 lf12_6 lf12_7 lf12_8 lf12_9
  go_wp2
  try rw [Exit.noGoto_ret]
  go_ret3
  exact ⟨_, _, rfl, rfl, done_mk OB_d.out, ⟨⟨_, _, BK_g.out, OB_l.out, rfl⟩, ⟨_, _, MP_m.out, HF.out⟩⟩, HBB.out.trans XT.out, HKG.out.trans KP.out⟩
end Go.Proofs.Ytlalpooiegganaa.MsgE
end

section
namespace Go.Proofs.Ytlalpooiegganaa.Ext
open Go.RowKit Go.Proofs.YtlalpooiegganaaW.PrintWords Go.Proofs.YtlalpooiegganaaW.PrintLast Go.Proofs.YtlalpooiegganaaW.PrintMore
set_option linter.unusedVariables false
set_option linter.unusedSimpArgs false
theorem info5 : (Try.prog.info? 5).map (fun i => (i.zero, i.size, i.bytes)) = some (some (.int .u8 0), 1, 1) := by kernel_rfl
theorem own_copied {W : World} {base g n cap : Nat} {e : TypeId} {k : IntKind} {xs : List Int} {cur : List Value} (hg : W.heap[g]? = some (.cells cur.toArray e (0, 0))) (hb : base ≤ g) (hl : xs.length = n) (hc : cur.length = cap) (hn : n ≤ cap) (hm : cap ≤ 9223372036854775807)
 (ht : cur.take n = nums k xs) : W.ownsRow base e 1 (.slice (some ⟨g, 0, none⟩) n cap) n (nums k xs) :=
 ⟨by simp [nums, hl], .inr ⟨g, cap, cur.toArray, rfl, hb, hg, hn, by simpa [maxLen] using hm, by simpa using hc, by simpa using ht⟩⟩
theorem wp_copy_row {P : Program} {w : World} {ops : Array Oper} {rest : List Oper} {o : Oper} {a : Act} {Q : Exit → Act → World → Prop} (hgd : o.guard = none) (d s : Operand) (dT sT : TypeId)
 (ho : o.op = .call { callee := .builtin .copy, args := #[d, s], argTypes := #[dT, sT] }) (e : TypeId) (hu : P.underlying dT = some (.slice e)) (hsz : (P.info? e).map (·.size) = some 1) (k : IntKind)
 (g : Nat) (A : Option Addr) (dCap sCap : Nat) (xs : List Int) (cur : List Value) (hd : a.eval d = .slice (some ⟨g, 0, none⟩) xs.length dCap) (hs : a.eval s = .slice A xs.length sCap)
 (hg : w.heap[g]? = some (.cells cur.toArray e (0, 0))) (hr : ReadsInt w k A xs.length xs) (hfit : xs.length ≤ cur.length)
 (w0 : World) (hb : Below w0.heap.size w0 w) (hBg : w0.heap.size ≤ g)
 (h : ∀ w', Aside0 (w'.heap[g]? = some (.cells (nums k xs ++ cur.drop xs.length).toArray e (0, 0))) → Aside0 (Below w0.heap.size w0 w') → wpList P ops Q rest (a.put o.dst (goInt xs.length)) w') :
 wpList P ops Q (o :: rest) a w := by
 refine wpList_copy_splice hgd d s dT sT ho e hu hsz (some ⟨g, 0, none⟩) A xs.length dCap xs.length sCap hd hs g 0 cur e hg (nums k xs) (by simp [nums]) (fun hp => ⟨rfl, ?_⟩) (by simpa [nums] using hfit)
  (by intro v hv; simp [nums] at hv; obtain ⟨x, _, rfl⟩ := hv; rfl) w0.heap.size w0 hb hBg (fun w' h1 h2 => ?_)
 ·have hp' : 0 < xs.length := by simpa [nums] using hp
  obtain ⟨ad, rfl, _⟩ := ReadsInt.at_ hr 0 (by omega) (by omega)
  refine ⟨ad, rfl, fun j v hj => ?_⟩
  have hlt : j < xs.length := by have := (List.getElem?_eq_some_iff.1 hj).1; simpa [nums] using this
  obtain ⟨ad', e', hc⟩ := ReadsInt.at_ hr (j : Int) (by omega) (by omega)
  cases e'
  rw [Int.toNat_natCast] at hc
  rw [hc]
  simp [nums, List.getElem?_map, List.getElem?_eq_getElem hlt] at hj
  rw [← hj]
  simp [rd, List.getElem?_eq_getElem hlt]
 ·have h1' : w'.heap[g]? = some (.cells (splice cur 0 (nums k xs)).toArray e (0, 0)) := h1
  have e1 : splice cur 0 (nums k xs) = nums k xs ++ cur.drop xs.length := by simp [splice, nums]
  rw [e1] at h1'
  have hl : (nums k xs).length = xs.length := by simp [nums]
  rw [hl]
  exact h w' ⟨h1'⟩ ⟨h2⟩
def wire_behind.f (l0 : List Int) (a1 : Int) : Option (List Int) := if 0 ≤ a1 ∧ (l0.length : Int) + a1 ≤ 140737488355328 then some l0 else none
set_option maxHeartbeats 8000000 in
set_option maxRecDepth 1000000 in
theorem wire_behind.calls (A0 : Option Addr) (c0 : Nat) (l0 : List Int) (a1 : Int) (r : List Int) (w : World) (hr0 : Kd.C (Kd.int .u8) w A0 l0.length l0) (hc0 : l0.length ≤ c0) (h : wire_behind.f l0 a1 = some r) :
 Calls Try.prog 70 #[.slice A0 l0.length c0, .int .i64 a1] w fun e w' => ∃ v0_ : Value, e = .returned (v0_) ∧ Kd.R (Kd.int .u8) 5 w' w.heap.size (fun _ => True) v0_ r ∧ Below w.heap.size w w' := by
 unfold wire_behind.f at h
 by_cases hc : 0 ≤ a1 ∧ (l0.length : Int) + a1 ≤ 140737488355328
 ·rw [if_pos hc] at h
  obtain ⟨h0, h1⟩ := hc
  obtain rfl := Option.some.inj h
  obtain ⟨m, rfl⟩ := Int.eq_ofNat_of_zero_le h0
  obtain ⟨i0, hi, hz0, hz1, hz2⟩ := info_parts info5
  have hmk := fun W : World => run_make (P := Try.prog) W 43 5 i0 (.int .u8 0) Try.underlying43 hi hz0 .i64 .i64 (l0.length : Int) ((l0.length : Int) + (m : Int)) (by omega) (by omega) (by rw [hz2]; omega) (by omega)
  simp only [hz1, Nat.mul_one, Int.toNat_natCast] at hmk
  rw [show ((l0.length : Int) + (m : Int)).toNat = l0.length + m from by omega] at hmk
  go_enter Try.func70, Try.ntmps70
  have hR : Aside0 (ReadsInt w .u8 A0 l0.length l0) := ⟨Kd.reads_of_C hr0⟩
  clear hr0
  go_wp2_with ((with_reducible refine gate_builtin (b := .copy) (xs := #[.tmp 13, .tmp 14]) rfl ?_); (refine wp_copy_row rfl (.tmp 13) (.tmp 14) 43 43 rfl 5 Try.underlying43 (by kernel_rfl) .u8 w.heap.size A0 _ c0 l0 (madeCells #[Value.int IntKind.u8 0] (l0.length + m)).toList rfl rfl ?c1 ?c2 ?c3 w ?c4 (Nat.le_refl _) ?_; (case c1 => exact heap_alloc_new w _); (case c2 => exact hR.out.below (below_alloc (Below.refl _ _) _)); (case c3 => simp [size_madeCells]); (case c4 => exact below_alloc (Below.refl _ _) _); intro w2 HG2 HB2))
  go_ret
  refine ⟨_, rfl, Kd.R_of_own ?_ (fun _ _ => trivial), HB2.out⟩
  refine own_copied HG2.out (Nat.le_refl _) rfl ?_ (by omega) (by omega) (by simp [nums])
  simp [nums, size_madeCells]
 ·rw [if_neg hc] at h
  cases h
end Go.Proofs.Ytlalpooiegganaa.Ext
end

section
namespace Go.Proofs.Ytlalpooiegganaa.PP
open Go.RowKit Go.Proofs.YtlalpooiegganaaW.PrintWords Go.Proofs.YtlalpooiegganaaW.PrintLast Go.Proofs.YtlalpooiegganaaW.PrintMore
attribute [local go_sem] max2_int min2_int max_two min_two max_three min_three max_four min_four   
set_option linter.unusedVariables false
set_option linter.unusedSimpArgs false
open Go.Proofs.Ytlalpooiegganaa.Ext
def errW : Option Int → Value
 | none => .nilIface
 | some c => .iface 0 (.int .i64 c)
theorem errW_none : errW none = .nilIface := rfl
theorem errW_some (c : Int) : errW (some c) = .iface 0 (.int .i64 c) := rfl
theorem info5 : (Try.prog.info? 5).map (fun i => (i.zero, i.size, i.bytes)) = some (some (.int .u8 0), 1, 1) := by kernel_rfl
end Go.Proofs.Ytlalpooiegganaa.PP
end

section
namespace Go.Proofs.Ytlalpooiegganaa.PP
open Go.RowKit Go.Proofs.YtlalpooiegganaaW.PrintWords Go.Proofs.YtlalpooiegganaaW.PrintLast Go.Proofs.YtlalpooiegganaaW.PrintMore
attribute [local go_sem] max2_int min2_int max_two min_two max_three min_three max_four min_four   
set_option linter.unusedVariables false
set_option linter.unusedSimpArgs false
open Go.Proofs.Ytlalpooiegganaa.Ext
def wire_Put.f (l0 : List Int) (a1 : Int) : Option (List Int × Int) := if a1 < 0 then (some (([] : List Int), 1)) else (if a1 > 65535 then (some (([] : List Int), 1)) else ((wire_behind.f l0 2).bind fun t101 => ((some (([(a1 / 256) % 256, (a1) % 256] : List Int) : List Int)).bind fun y104 => (if t101.length + y104.length < 140737488355328 then (some ((t101 ++ y104), 0)) else (none)))))
set_option maxHeartbeats 8000000 in
set_option maxRecDepth 100000 in
theorem wire_Put.calls (A0 : Option Addr) (c0 : Nat) (l0 : List Int) (a1 : Int) (r1 : List Int) (r2 : Int) (w : World) (hr0 : Kd.C (Kd.int .u8) w A0 l0.length l0) (hc0 : l0.length ≤ c0) (h : wire_Put.f l0 a1 = some (r1, r2)) :
 Calls Try.prog 69 #[.slice A0 l0.length c0, .int .i64 a1] w fun e w' => ∃ v0_ : Value, e = .returned (.tuple #[v0_, .int .i64 r2]) ∧ Kd.R (Kd.int .u8) 5 w' w.heap.size (fun _ => True) v0_ r1 ∧ Below w.heap.size w w' := by
 have HR0 := Aside0.mk hr0
 have HC0 := Aside0.mk hc0
 clear hr0 hc0
 have HB := Aside0.mk (Below.refl w.heap.size w)
 have H : (if a1 < 0 then (some (([] : List Int), 1)) else (if a1 > 65535 then (some (([] : List Int), 1)) else ((wire_behind.f l0 2).bind fun t101 => ((some (([(a1 / 256) % 256, (a1) % 256] : List Int) : List Int)).bind fun y104 => (if t101.length + y104.length < 140737488355328 then (some ((t101 ++ y104), 0)) else (none)))))) = some (r1, r2) := h
 clear h
 by_cases c3 : a1 < 0
 ·rw [if_pos c3] at H
  have c3b0 : decide (a1 < 0) = true := decide_eq_true c3
  clear c3
  simp only [Option.some.injEq, Prod.mk.injEq] at H
  obtain ⟨rfl, rfl⟩ := H
  go_enter Try.func69, Try.ntmps69
  go_wp2
  go_ret2
  exact ⟨_, er_, by first | exact Kd.R_nil _ _ _ _ _ | exact Kd.N_nil _ _ _ _ _ | exact Kd.V_nil _ _ _ _ _ | exact Kd.Q_nil _ _ _ _ _ | exact Kd.S_nil _ _ _ _ _, bl0_ HB⟩
 ·rw [if_neg c3] at H
  have c3b0 : decide (a1 < 0) = false := decide_eq_false c3
  clear c3
  by_cases c4 : a1 > 65535
  ·rw [if_pos c4] at H
   have c4b0 : decide (65535 < a1) = true := decide_eq_true c4
   clear c4
   simp only [Option.some.injEq, Prod.mk.injEq] at H
   obtain ⟨rfl, rfl⟩ := H
   go_enter Try.func69, Try.ntmps69
   go_wp2
   go_ret2
   exact ⟨_, er_, by first | exact Kd.R_nil _ _ _ _ _ | exact Kd.N_nil _ _ _ _ _ | exact Kd.V_nil _ _ _ _ _ | exact Kd.Q_nil _ _ _ _ _ | exact Kd.S_nil _ _ _ _ _, bl0_ HB⟩
  ·rw [if_neg c4] at H
   have c4b0 : decide (65535 < a1) = false := decide_eq_false c4
   clear c4
   replace H := Option.bind_eq_some_iff.mp H
   obtain ⟨t101, A50, H⟩ := H
   replace H : ((some (([(a1 / 256) % 256, (a1) % 256] : List Int) : List Int)).bind fun y104 => (if t101.length + y104.length < 140737488355328 then (some ((t101 ++ y104), 0)) else (none))) = some (r1, r2) := H
   have A5 := Aside0.mk A50
   clear A50
   obtain ⟨y104, hy104⟩ : ∃ y_ : List Int, y_ = (([(a1 / 256) % 256, (a1) % 256] : List Int)) := ⟨_, rfl⟩
   replace H : (if t101.length + y104.length < 140737488355328 then (some ((t101 ++ y104), 0)) else (none)) = some (r1, r2) := by first | (rw [hy104]; with_reducible exact H) | (have H2_ := (Option.bind_some _ _).symm.trans H; rw [hy104]; with_reducible exact H2_) | (have H2_ := (Option.bind_some _ _).symm.trans H; with_reducible exact H2_) | with_reducible exact H | (rw [hy104]; exact H) | exact H
   have Ny104 := Aside0.mk hy104
   clear hy104
   by_cases c6 : t101.length + y104.length < 140737488355328
   ·rw [if_pos c6] at H
    have LMc6 := Aside0.mk c6
    clear c6
    obtain ⟨y107, hy107⟩ : ∃ y_ : List Int, y_ = (t101 ++ y104) := ⟨_, rfl⟩
    replace H : (some (y107, 0)) = some (r1, r2) := by first | (rw [hy107]; with_reducible exact H) | (have H2_ := (Option.bind_some _ _).symm.trans H; rw [hy107]; with_reducible exact H2_) | (have H2_ := (Option.bind_some _ _).symm.trans H; with_reducible exact H2_) | with_reducible exact H | (rw [hy107]; exact H) | exact H
    have Ny107 := Aside0.mk hy107
    clear hy107
    simp only [Option.some.injEq, Prod.mk.injEq] at H
    obtain ⟨rfl, rfl⟩ := H
    go_enter Try.func69, Try.ntmps69
    go_wp2_with (first | ((with_reducible refine gate_callee (f := 70) rfl ?_); refine goesL_ (some 13) rfl rfl Try.func70 (by kernel_rfl) rfl #[.slice A0 l0.length c0, .int .i64 2] rfl ar_ ?_; (with_reducible refine (wire_behind.calls _ _ l0 2 t101 _ ?side1 ?side2 A5.out).mono ?_); (case side1 => repeat (first | exact HR0.out | (with_reducible refine Kd.C_alloc ?_ _) | (with_reducible refine Kd.C_drewN ?_ _) | (with_reducible refine Kd.C_drew ?_))); (case side2 => exact HC0.out); rintro e w7 ⟨v102, rfl, ho0, hb⟩; refine ⟨_, rfl, ?_⟩; have n0_ := Aside0.mk (Kd.R_lower ho0 (below_size (bl0_ HB))); have n1_ := Aside0.mk (below_step (bl0_ HB) hb); clear HB; have HO103 := n0_; have HB := n1_; clear n0_ n1_; (try clear hb); (try clear hb2); (try clear hk); (try clear hi); (try clear ho0)) | ((with_reducible refine gate_dst (N := 19) rfl ?_); refine Kd.R_lit (Kd.int .u8) _ 5 ?hg (N := 19) ?hd (xs := ([(a1 / 256) % 256, (a1) % 256] : List Int)) (inner := [.int .u8 ((a1 / 256) % 256), .int .u8 ((a1) % 256)]) (ok := fun _ => True) (okp := fun _ => True) ?hr ?hp (fun _ hk => hk) trivial (Below.refl _ _) (Nat.le_refl _) (by simp) ?_; (case hd => rfl); (case hg => rfl); (case hr => first | (go_simp; done) | (go_simp; rfl)); (case hp => exact (Reps.one (show Kd.M (Kd.int .u8) _ _ _ ((a1 / 256) % 256) [.int .u8 ((a1 / 256) % 256)] from rfl) (Reps.one (show Kd.M (Kd.int .u8) _ _ _ ((a1) % 256) [.int .u8 ((a1) % 256)] from rfl) (Reps.none _ _)))); intro v105 w8 ho9 hb hg_ hnew_; clear hg_ hnew_; (first | rw [← Ny104.out] at ho9 | (simp only [Int.reduceToNat] at ho9; rw [← Ny104.out] at ho9)); have n0_ := Aside0.mk (Kd.R_elder' (kr_ HO103) (Kd.R_base ho9) hb); have n1_ := Aside0.mk (Kd.R_lower (Kd.R_new' ho9 (Kd.R_lt (kr_ HO103))) (below_size (bl0_ HB))); have n2_ := Aside0.mk (below_step (bl0_ HB) hb); clear HO103; clear HB; have HO103 := n0_; have HO106 := n1_; have HB := n2_; clear n0_ n1_ n2_; clear hb ho9; obtain ⟨Ao11, co11, eo11⟩ := Kd.R_slice HO106.out; subst eo11) | ((with_reducible refine gate_builtin (b := .append) (xs := #[.tmp 13, .tmp 19]) rfl ?_); at_builtin; refine Kd.R_append_rows (Kd.int .u8) (w0 := w) w.heap.size rfl (.tmp 13) (.tmp 19) 43 5 (.int .u8 0) 1 rfl Try.underlying43 info5 rfl (by decide) (by omega) v102 t101 y104 _ _ _ (fun k_ => some k_ ≠ (.slice Ao11 y104.length co11 : Value).ownBlock) (fun _ => False) rfl rfl ?aO ?aR (fun _ _ h => h) (fun _ h => h.elim) ?aF ?aB ?aS ?aL ?_; (case aR => exact sc_ (Kd.R_reads' HO106.out).2.2); (case aB => exact (bl0_ HB)); (case aF => exact (fun k_ hk => Kd.fresh' (Kd.R_lt (kr_ HO106)) k_ hk)); (case aO => exact (by (with_reducible repeat (first | apply Kd.R_alloc | apply Kd.R_drewN | apply Kd.R_drew)); exact Kd.R_mono HO103.out (fun _ hk => hk.2))); (case aS => exact (below_size (bl0_ HB))); (case aL => have := LMc6.out; omega); intro v108 w10 ho hb hg hat; rw [← Ny107.out] at ho; have n0_ := Aside0.mk (Kd.R_after (ok := (fun _ => True)) (kr_ HO106) hg hat); have n1_ := Aside0.mk (hb); have n2_ := Aside0.mk (ho); clear HO106; clear HB; clear HO103; have HO106 := n0_; have HB := n1_; have HO109 := n2_; clear n0_ n1_ n2_; clear ho hb hg hat))
    go_ret2
    exact ⟨_, er_, by (with_reducible repeat (first | apply Kd.R_alloc | apply Kd.R_drewN | apply Kd.R_drew)); exact Kd.R_mono HO109.out (fun _ hk => trivial), bl0_ HB⟩
   ·rw [if_neg c6] at H
    exact absurd H (by simp)
end Go.Proofs.Ytlalpooiegganaa.PP
end

section
namespace Go.Proofs.Ytlalpooiegganaa.ExtF
open Go.RowKit Go.Proofs.YtlalpooiegganaaW.PrintWords Go.Proofs.YtlalpooiegganaaW.PrintLast Go.Proofs.YtlalpooiegganaaW.PrintMore Go.Proofs.Ytlalpooiegganaa.Ext Go.Proofs.Ytlalpooiegganaa.PP
set_option linter.unusedVariables false
set_option linter.unusedSimpArgs false
theorem wrap64_id (x : Int) (h0 : -9223372036854775808 ≤ x) (h1 : x ≤ 9223372036854775807) : wrap64 x = x := by unfold wrap64; omega
def lays (l : List Int) : List Int := l.flatMap fun n => [n / 256, n % 256]
theorem lays_len (l : List Int) : (lays l).length = 2 * l.length := by
 induction l with
 | nil => rfl
 | cons x t ih => show ([x / 256, x % 256] ++ lays t).length = _; simp [ih]; omega
theorem lays_snoc (l : List Int) (x : Int) : lays (l ++ [x]) = lays l ++ [x / 256, x % 256] := by simp [lays]
def Words (l : List Int) : Prop := ∀ x ∈ l, 0 ≤ x ∧ x ≤ 65535
instance (l : List Int) : Decidable (Words l) := by unfold Words; infer_instance
theorem put_f (l : List Int) (a : Int) (h : 0 ≤ a ∧ a ≤ 65535) (hl : l.length ≤ 1000000000) : wire_Put.f l a = some (l ++ [a / 256, a % 256], 0) := by
 unfold wire_Put.f wire_behind.f
 rw [if_neg (by omega), if_neg (by omega), if_pos (by omega)]
 simp only [Option.bind_some]
 rw [if_pos (by simp; omega), show a / 256 % 256 = a / 256 from by omega]
def pdu_lay.f (l0 l1 : List Int) : Option (List Int) := if l1 ≠ [] ∧ Words l1 ∧ l0.length ≤ 100000000 ∧ l1.length ≤ 100000000 then some (l0 ++ lays l1) else none
set_option maxHeartbeats 8000000 in
set_option maxRecDepth 100000 in
theorem pdu_lay.calls (A0 : Option Addr) (c0 : Nat) (l0 : List Int) (A1 : Option Addr) (c1 : Nat) (l1 : List Int) (r : List Int) (w : World) (hr0 : Kd.C (Kd.int .u8) w A0 l0.length l0) (hc0 : l0.length ≤ c0) (hr1 : Kd.C (Kd.int .i64) w A1 l1.length l1) (hc1 : l1.length ≤ c1) (h : pdu_lay.f l0 l1 = some r) :
 Calls Try.prog 63 #[.slice A0 l0.length c0, .slice A1 l1.length c1] w fun e w' => ∃ v0_ : Value, e = .returned (v0_) ∧ Kd.R (Kd.int .u8) 5 w' w.heap.size (fun _ => True) v0_ r ∧ Below w.heap.size w w' := by
 unfold pdu_lay.f at h
 by_cases hc : l1 ≠ [] ∧ Words l1 ∧ l0.length ≤ 100000000 ∧ l1.length ≤ 100000000
 ·rw [if_pos hc] at h
  obtain rfl := Option.some.inj h
  obtain ⟨hne, hwd, hl0, hl1⟩ := hc
  have hpos : 0 < l1.length := List.length_pos_iff.2 hne
  have HR0 := Aside0.mk hr0
  have HR1 := Aside0.mk hr1
  have HW := Aside0.mk hwd
  clear hr0 hr1 hwd hne h
  have HB := Aside0.mk (Below.refl w.heap.size w)
  go_enter Try.func63, Try.ntmps63
  go_wp2
  go_loopg [0, 9] l1.length (fun kq v0 v9 w' => ∃ (i : Nat) (x0 : List Int) (A : Option Addr) (c : Nat), v9 = .int .i64 (i : Int) ∧ v0 = .slice A x0.length c ∧ Aside0 (i + kq = l1.length) ∧ Aside0 (x0 = l0 ++ lays (l1.take i)) ∧ Aside0 (Kd.C (Kd.int .u8) w' A x0.length x0) ∧ Aside0 (x0.length ≤ c) ∧ Aside0 (0 < i → Kd.R (Kd.int .u8) 5 w' w.heap.size (fun _ => True) (.slice A x0.length c) x0) ∧ Aside0 (Below w.heap.size w w'))
  case atStart => exact ⟨0, l0, A0, c0, rfl, rfl, ⟨by omega⟩, ⟨by simp [lays]⟩, ⟨by (with_reducible repeat (first | refine Kd.C_alloc ?_ _ | refine Kd.C_drewN ?_ _ | refine Kd.C_drew ?_)); exact HR0.out⟩, ⟨hc0⟩, ⟨fun h => absurd h (by omega)⟩, ⟨by repeat (first | exact HB.out | apply below_alloc | apply pw_below_drewN | apply below_drew1 | apply below_drew)⟩⟩
  case round =>
   obtain ⟨i, x0, A, c, rfl, rfl, HI, HX, HC, Hc, HRR, HB2⟩ := hrel
   cases gk with
   | zero =>
    have hi := HI.out
    have hx := HX.out
    obtain rfl : i = l1.length := by omega
    rw [List.take_length] at hx
    have ht : decide ((l1.length : Int) < (l1.length : Int)) = false := by simp
    go_wp2
    go_ret
    refine ⟨_, rfl, ?_, ?_⟩
    ·rw [← hx]; (with_reducible repeat (first | apply Kd.R_alloc | apply Kd.R_drewN | apply Kd.R_drew)); exact HRR.out hpos
    ·repeat (first | exact HB2.out | apply below_alloc | apply pw_below_drewN | apply below_drew1 | apply below_drew)
   | succ k1 =>
    have hi := HI.out
    have hlt : i < l1.length := by omega
    have ht : decide ((i : Int) < (l1.length : Int)) = true := decide_eq_true (by omega)
    obtain ⟨ad, ead, hx⟩ := Kd.at_int HR1.out (i : Int) (by omega) (by omega)
    cases ead
    replace hx := (HB2.out.cell (World.block_lt_of_cell? w _ hx)).trans hx
    have hrd : rd l1 (i : Int) = l1[i] := by simp [rd, List.getElem?_eq_getElem hlt]
    rw [hrd, Int.toNat_natCast] at hx
    have hwx := HW.out l1[i] (List.getElem_mem _)
    have hxl : x0.length = l0.length + 2 * i := by rw [HX.out, List.length_append, lays_len, List.length_take]; omega
    have fput := Aside0.mk (put_f x0 l1[i] hwx (by omega))
    have hnext : Aside0 (x0 ++ [l1[i] / 256, l1[i] % 256] = l0 ++ lays (l1.take (i + 1))) := ⟨by rw [List.take_succ_eq_append_getElem hlt, lays_snoc, ← List.append_assoc, ← HX.out]⟩
    clear hxl
    generalize l1[i] = n at hx fput hnext
    generalize x0 ++ [n / 256, n % 256] = y at fput hnext
    go_wp2_with (go_at_call 69; refine (wire_Put.calls A c x0 n y 0 _ (by (with_reducible repeat (first | refine Kd.C_alloc ?_ _ | refine Kd.C_drewN ?_ _ | refine Kd.C_drew ?_)); exact HC.out) Hc.out fput.out).mono ?_; rintro e w2 ⟨v, rfl, HR, HB⟩; obtain ⟨A2, c2, rfl, hc2, HC2⟩ := Kd.R_reads HR; have HR' := Aside0.mk HR; have HC2' := Aside0.mk HC2; have hc2' := Aside0.mk hc2; have HBn := Aside0.mk (below_step (by repeat (first | exact HB2.out | apply below_alloc | apply pw_below_drewN | apply below_drew1 | apply below_drew)) HB); have hge := below_size (by repeat (first | exact HB2.out | apply below_alloc | apply pw_below_drewN | apply below_drew1 | apply below_drew)); clear HR HC2 hc2 HB)
    go_roundg k1
    case measure => omega
    case rel => exact ⟨i + 1, y, A2, c2, by simp, rfl, ⟨by omega⟩, hnext, ⟨by (with_reducible repeat (first | refine Kd.C_alloc ?_ _ | refine Kd.C_drewN ?_ _ | refine Kd.C_drew ?_)); exact HC2'.out⟩, hc2', ⟨fun _ => by (with_reducible repeat (first | apply Kd.R_alloc | apply Kd.R_drewN | apply Kd.R_drew)); exact Kd.R_lower HR'.out hge⟩, ⟨by repeat (first | exact HBn.out | apply below_alloc | apply pw_below_drewN | apply below_drew1 | apply below_drew)⟩⟩
 ·rw [if_neg hc] at h
  cases h
end Go.Proofs.Ytlalpooiegganaa.ExtF
end

section
namespace Go.Proofs.Ytlalpooiegganaa.ExtM
open Go.RowKit Go.Proofs.YtlalpooiegganaaW.PrintWords Go.Proofs.YtlalpooiegganaaW.PrintLast Go.Proofs.YtlalpooiegganaaW.PrintMore Go.Proofs.Ytlalpooiegganaa.ExtF
set_option linter.unusedVariables false
set_option linter.unusedSimpArgs false
open Go.Proofs.Ytlalpooiegganaa.Chk
def Bits (l : List Int) : Prop := ∀ x ∈ l, x = 0 ∨ x = 1
instance (l : List Int) : Decidable (Bits l) := by unfold Bits; infer_instance
def isB (a : Int) : Bool := decide (0 ≤ a ∧ a ≤ 65535)
def spanB (a n : Int) : Bool := decide (0 ≤ a ∧ a ≤ 65535 ∧ a + n ≤ 65536)
def valB (bit : Bool) (l : List Int) (lo hi : Nat) : Bool := decide (lo ≤ l.length ∧ l.length ≤ hi) && (if bit then decide (Bits l) else decide (Words l))
def mayB (fn a1 a2 : Int) (l0 : List Int) (a4 a5 a6 : Int) : Bool :=
 if fn = 1 ∨ fn = 2 then ((l0.length : Int) == 0) && ((a5 == 0) && (a6 == 0)) && (a4 == 0) && decide (1 ≤ a2) && decide (a2 ≤ 2000) && spanB a1 a2
 else if fn = 3 ∨ fn = 4 then ((l0.length : Int) == 0) && ((a5 == 0) && (a6 == 0)) && (a4 == 0) && decide (1 ≤ a2) && decide (a2 ≤ 125) && spanB a1 a2
 else if fn = 5 then ((a5 == 0) && (a6 == 0)) && (a4 == 0) && (a2 == 0) && valB true l0 1 1 && spanB a1 1
 else if fn = 6 then ((a5 == 0) && (a6 == 0)) && (a4 == 0) && (a2 == 0) && valB false l0 1 1 && spanB a1 1
 else if fn = 15 then ((a5 == 0) && (a6 == 0)) && (a4 == 0) && (a2 == (l0.length : Int)) && valB true l0 1 1968 && spanB a1 (l0.length : Int)
 else if fn = 16 then ((a5 == 0) && (a6 == 0)) && (a4 == 0) && (a2 == (l0.length : Int)) && valB false l0 1 123 && spanB a1 (l0.length : Int)
 else if fn = 22 then ((l0.length : Int) == 0) && (a4 == 0) && (a2 == 0) && spanB a1 1 && isB a5 && isB a6
 else if fn = 23 then ((a5 == 0) && (a6 == 0)) && decide (1 ≤ a2) && decide (a2 ≤ 125) && spanB a1 a2 && valB false l0 1 121 && spanB a4 (l0.length : Int)
 else false
theorem and_eq {a b c d : Bool} (h : a = c) (k : b = d) : (a && b) = (c && d) := by rw [h, k]
theorem sm_bit (l : List Int) (lo hi : Nat) : smB lo hi 1 l = valB true l lo hi :=
 and_eq (decide_eq_decide.2 (by omega)) (by
  rw [if_pos rfl]
  exact decide_eq_decide.2 ⟨fun k x hx => by have := k x hx; omega, fun k x hx => by have := k x hx; omega⟩)
theorem sm_word (l : List Int) (lo hi : Nat) : smB lo hi 65535 l = valB false l lo hi :=
 and_eq (decide_eq_decide.2 (by omega)) (by
  rw [if_neg (by decide)]
  exact decide_eq_decide.2 ⟨fun k x hx => by have := k x hx; omega, fun k x hx => by have := k x hx; omega⟩)
theorem sp_eq (a n : Int) : spB a n = spanB a n := rfl
theorem w_eq (lo hi n : Int) : wB lo hi n = (decide (lo ≤ n) && decide (n ≤ hi)) := by
 unfold wB
 rw [Bool.eq_iff_iff, Bool.and_eq_true, decide_eq_true_eq, decide_eq_true_eq, decide_eq_true_eq]
theorem w_is (n : Int) : wB 0 65535 n = isB n := rfl
theorem chk_may (f a c : Int) (v : List Int) (t n o : Int) : chkB f a c v t n o = mayB f a c v t n o := by
 unfold chkB mayB
 have b1 := sm_bit v 1 1; have b2 := sm_word v 1 1; have b3 := sm_bit v 1 1968; have b4 := sm_word v 1 123; have b5 := sm_word v 1 121
 have c1 : smB 1 1 1 v = valB true v 1 1 := b1
 have c2 : smB 1 1 65535 v = valB false v 1 1 := b2
 have c3 : smB 1 1968 1 v = valB true v 1 1968 := b3
 have c4 : smB 1 123 65535 v = valB false v 1 123 := b4
 have c5 : smB 1 121 65535 v = valB false v 1 121 := b5
 rw [c1, c2, c3, c4, c5, w_is n, w_is o, w_eq 1 2000 c, w_eq 1 125 c]
 simp only [sp_eq, Bool.and_assoc, Bool.and_comm, Bool.and_left_comm]
def pdu_Check.f (a0 a1 a2 : Int) (l : List Int) (a4 a5 a6 : Int) : Option Int := some (if mayB a0 a1 a2 l a4 a5 a6 then 0 else 1)
theorem pdu_Check.calls (a0_0 : Int) (a0_1 : Int) (a0_2 : Int) (A0_3 : Option Addr) (c0_3 : Nat) (l0_3 : List Int) (a0_4 : Int) (a0_5 : Int) (a0_6 : Int) (r : Int) (w : World) (hr0_3 : Kd.C (Kd.int .i64) w A0_3 l0_3.length l0_3) (hc0_3 : l0_3.length ≤ c0_3) (h : pdu_Check.f a0_0 a0_1 a0_2 l0_3 a0_4 a0_5 a0_6 = some r) :
 Calls Try.prog 29 #[.agg #[.int .i64 a0_0, .int .i64 a0_1, .int .i64 a0_2, .slice A0_3 l0_3.length c0_3, .int .i64 a0_4, .int .i64 a0_5, .int .i64 a0_6]] w fun e w' => e = .returned (.int .i64 r) ∧ Below w.heap.size w w' := by
 obtain rfl := Option.some.inj h
 rw [← chk_may]
 exact chk_c a0_0 a0_1 a0_2 A0_3 c0_3 l0_3 a0_4 a0_5 a0_6 w hr0_3
end Go.Proofs.Ytlalpooiegganaa.ExtM
end

section
namespace Go.Proofs.Ytlalpooiegganaa.PG
open Go.RowKit Go.Proofs.YtlalpooiegganaaW.PrintWords Go.Proofs.YtlalpooiegganaaW.PrintLast Go.Proofs.YtlalpooiegganaaW.PrintMore
attribute [local go_sem] max2_int min2_int max_two min_two max_three min_three max_four min_four   
set_option linter.unusedVariables false
set_option linter.unusedSimpArgs false
open Go.Proofs.Ytlalpooiegganaa.Ext Go.Proofs.Ytlalpooiegganaa.PP Go.Proofs.Ytlalpooiegganaa.ExtF Go.Proofs.Ytlalpooiegganaa.ExtM
def errW : Option Int → Value
 | none => .nilIface
 | some c => .iface 0 (.int .i64 c)
theorem errW_none : errW none = .nilIface := rfl
theorem errW_some (c : Int) : errW (some c) = .iface 0 (.int .i64 c) := rfl
theorem info3 : (Try.prog.info? 3).map (fun i => (i.zero, i.size, i.bytes)) = some (some (.int .i64 0), 1, 8) := by kernel_rfl
theorem info5 : (Try.prog.info? 5).map (fun i => (i.zero, i.size, i.bytes)) = some (some (.int .u8 0), 1, 1) := by kernel_rfl
end Go.Proofs.Ytlalpooiegganaa.PG
end

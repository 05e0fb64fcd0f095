/- The walk of RtuFrames. (printed by gen_rframes.py) -/
import Derived.Test.YtabjlanomebonaaHandRF
import Derived.Test.YtabjlanomebonaaWk
namespace Go.Proofs.Ytabjlanomebonaa.HandRFrames
open Go.RowKit Go.Proofs.YtabjlanomebonaaW.PrintWords Go.Proofs.YtabjlanomebonaaW.PrintLast Go.Proofs.YtabjlanomebonaaW.PrintMore Go.Proofs.Ytabjlanomebonaa.Core Go.Proofs.Ytabjlanomebonaa.Ext Go.Proofs.Ytabjlanomebonaa.ExtC Go.Proofs.Ytabjlanomebonaa.PB Go.Proofs.Ytabjlanomebonaa.Math Go.Proofs.Ytabjlanomebonaa.HandGood Go.Proofs.Ytabjlanomebonaa.Wk Go.Proofs.Ytabjlanomebonaa.HandRF
set_option linter.unusedVariables false
set_option linter.unusedSimpArgs false
theorem frame_no (n : Int) (l : List Int) (h : n < 0 ∨ 247 < n ∨ l.length < 1 ∨ 253 < l.length) : rtu_Frame.f n l = some ([], 1) := by
  unfold rtu_Frame.f
  by_cases h1 : n < 0
  · exact if_pos h1
  refine (if_neg h1).trans ?_
  by_cases h2 : 247 < n
  · exact if_pos h2
  refine (if_neg h2).trans ?_
  by_cases h3 : l.length < 1
  · exact if_pos (by omega)
  refine (if_neg (by omega)).trans (if_pos (by omega))
def frameV (n : Int) (l : List Int) : List Int := ([n % 256] ++ l) ++ [((crcN 65535 ([n % 256] ++ l) % 256 : Nat) : Int), ((crcN 65535 ([n % 256] ++ l) / 256 : Nat) : Int)]
theorem head_bytes {n : Int} {l : List Int} (hb : Bytes l) : Bytes ([n % 256] ++ l) := fun x hx => by
  rcases List.mem_append.1 hx with h | h
  · have : x = n % 256 := by simpa using h
    omega
  · exact hb x h
theorem frame_yes {n : Int} {l : List Int} (hb : Bytes l) (h0 : 0 ≤ n) (h1 : n ≤ 247) (h2 : 1 ≤ l.length) (h3 : l.length ≤ 253) : rtu_Frame.f n l = some (frameV n l, 0) := by
  unfold rtu_Frame.f
  refine (if_neg (by omega)).trans ((if_neg (by omega)).trans ((if_neg (by omega)).trans ((if_neg (by omega)).trans ?_)))
  rw [Option.bind_some]
  have hl : ([n % 256] ++ l).length = l.length + 1 := by simp
  refine (if_pos (by simp; omega)).trans ?_
  exact HandGood.bind_of (add_f (head_bytes hb) (by omega)) rfl
theorem refframe (K : Nat) {n : Int} {l : List Int} (hb : Bytes l) (h3 : l.length ≤ 253) (hK : l.length + 70 ≤ K) : basculeref05_Frame.f K n l = some (frameV n l) := by
  have hl : ([n % 256] ++ l).length = l.length + 1 := by simp
  unfold basculeref05_Frame.f
  refine HandGood.bind_of (HandGood.both_f _ _ (by simp; omega)) ?_
  exact HandGood.bind_of (HandGood.refadd_f _ (head_bytes hb) (by omega) K (by omega)) rfl
set_option maxHeartbeats 4000000 in
set_option maxRecDepth 100000 in
theorem rf_a (n : Int) (A1 : Option Addr) (c1 : Nat) (l1 : List Int) (A2 : Option Addr) (c2 : Nat) (l2 : List Int) (w : World) (hV1 : Kd.C (Kd.int .u8) w A1 l1.length l1) (hc1 : l1.length ≤ c1) (hV2 : Kd.C (Kd.int .u8) w A2 l2.length l2) (hc2 : l2.length ≤ c2) (hb1 : Bytes l1) (hb2 : Bytes l2) (h : 600 < l1.length) :
    Calls Try.prog 11 #[.int .i64 n, .slice A1 l1.length c1, .slice A2 l2.length c2] w fun e w' => e = .returned (.bool true) ∧ Below w.heap.size w w' := by
  have t1 : decide (600 < (l1.length : Int)) = true := decide_eq_true (by omega); have t1' : decide (600 < l1.length) = true := decide_eq_true h
  clear hV1 hc1 hV2 hc2 hb1 hb2 h
  go_enter Try.func11, Try.ntmps11
  go_wp2
  go_ret
  exact ⟨rfl, Below.refl _ _⟩
set_option maxHeartbeats 4000000 in
set_option maxRecDepth 100000 in
theorem rf_b (n : Int) (A1 : Option Addr) (c1 : Nat) (l1 : List Int) (A2 : Option Addr) (c2 : Nat) (l2 : List Int) (w : World) (hV1 : Kd.C (Kd.int .u8) w A1 l1.length l1) (hc1 : l1.length ≤ c1) (hV2 : Kd.C (Kd.int .u8) w A2 l2.length l2) (hc2 : l2.length ≤ c2) (hb1 : Bytes l1) (hb2 : Bytes l2) (h0 : l1.length ≤ 600) (h : 600 < l2.length) :
    Calls Try.prog 11 #[.int .i64 n, .slice A1 l1.length c1, .slice A2 l2.length c2] w fun e w' => e = .returned (.bool true) ∧ Below w.heap.size w w' := by
  have t1 : decide (600 < (l1.length : Int)) = false := decide_eq_false (by omega); have t1' : decide (600 < l1.length) = false := decide_eq_false (by omega); have t2 : decide (600 < (l2.length : Int)) = true := decide_eq_true (by omega); have t2' : decide (600 < l2.length) = true := decide_eq_true h
  clear hV1 hc1 hV2 hc2 hb1 hb2 h h0
  go_enter Try.func11, Try.ntmps11
  go_wp2
  go_ret
  exact ⟨rfl, Below.refl _ _⟩
set_option maxHeartbeats 4000000 in
set_option maxRecDepth 100000 in
theorem rf_n1 (n : Int) (A1 : Option Addr) (c1 : Nat) (l1 : List Int) (A2 : Option Addr) (c2 : Nat) (l2 : List Int) (w : World) (hV1 : Kd.C (Kd.int .u8) w A1 l1.length l1) (hc1 : l1.length ≤ c1) (hV2 : Kd.C (Kd.int .u8) w A2 l2.length l2) (hc2 : l2.length ≤ c2) (hb1 : Bytes l1) (hb2 : Bytes l2) (k1 : l1.length ≤ 600) (k2 : l2.length ≤ 600) (u g : Int) (p fr : List Int) (hs : splitV l2 = (u, p, g)) (h : n < 0) (hfr : rtu_Frame.f n l1 = some ([], 1)) :
    Calls Try.prog 11 #[.int .i64 n, .slice A1 l1.length c1, .slice A2 l2.length c2] w fun e w' => e = .returned (.bool true) ∧ Below w.heap.size w w' := by
  have t1 : decide (600 < (l1.length : Int)) = false := decide_eq_false (by omega); have t1' : decide (600 < l1.length) = false := decide_eq_false (by omega)
  have t2 : decide (600 < (l2.length : Int)) = false := decide_eq_false (by omega); have t2' : decide (600 < l2.length) = false := decide_eq_false (by omega)
  have s0 : decide (n < 0) = true := decide_eq_true (by omega)
  have HS := Aside0.mk hs; have HSF : Aside0 (rtu_Split.f l2 = some (u, p, g)) := ⟨by rw [split_f hb2 k2, hs]⟩; have B1 := Aside0.mk hb1; have B2 := Aside0.mk hb2; have K2 := Aside0.mk k2; have CP_1 := Aside0.mk hc1; have CP_2 := Aside0.mk hc2; have OB_a := Aside0.mk hV1; have OB_b := Aside0.mk hV2; have HFR := Aside0.mk hfr
  clear hs hb1 hb2 hc1 hc2 hV1 hV2 hfr
  have XT : Aside0 (Ext (fun _ => False) w w) := ⟨Ext.refl _ _⟩
  go_enter Try.func11, Try.ntmps11
  go_wp2_with (first | ((with_reducible refine gate_builtin (b := .append) (xs := #[.tmp 25, .tmp 26]) rfl ?_); refine HandGood.wp_copy_lit rfl (.tmp 25) (.tmp 26) 22 5 .u8 rfl Try.underlying22 Ext.info5 l1 A1 _ rfl rfl ?cv (by omega) ?_; (case cv => exact OB_a.out); intro A3 c3 w1 hC hc HBc; have OBn_a : Aside0 (Kd.C (Kd.int .u8) w1 A1 l1.length l1) := ⟨Kd.C_below OB_a.out HBc⟩; have OBn_b : Aside0 (Kd.C (Kd.int .u8) w1 A2 l2.length l2) := ⟨Kd.C_below OB_b.out HBc⟩; have XTn : Aside0 (Ext (fun _ => False) w w1) := ⟨XT.out.stepB HBc⟩; clear OB_a OB_b XT; have OB_a := OBn_a; have OB_b := OBn_b; have XT := XTn; clear OBn_a OBn_b XTn; have OB_own : Aside0 (Kd.C (Kd.int .u8) w1 A3 l1.length l1) := ⟨hC⟩; have CP_own := Aside0.mk hc; clear hC hc HBc) | ((with_reducible refine gate_builtin (b := .append) (xs := #[.tmp 28, .tmp 29]) rfl ?_); refine HandGood.wp_copy_lit rfl (.tmp 28) (.tmp 29) 22 5 .u8 rfl Try.underlying22 Ext.info5 l2 A2 _ rfl rfl ?cv (by omega) ?_; (case cv => exact OB_b.out); intro A4 c4 w2 hC hc HBc; have OBn_a : Aside0 (Kd.C (Kd.int .u8) w2 A1 l1.length l1) := ⟨Kd.C_below OB_a.out HBc⟩; have OBn_b : Aside0 (Kd.C (Kd.int .u8) w2 A2 l2.length l2) := ⟨Kd.C_below OB_b.out HBc⟩; have OBn_own : Aside0 (Kd.C (Kd.int .u8) w2 A3 l1.length l1) := ⟨Kd.C_below OB_own.out HBc⟩; have XTn : Aside0 (Ext (fun _ => False) w w2) := ⟨XT.out.stepB HBc⟩; clear OB_a OB_b OB_own XT; have OB_a := OBn_a; have OB_b := OBn_b; have OB_own := OBn_own; have XT := XTn; clear OBn_a OBn_b OBn_own XTn; have OB_mine : Aside0 (Kd.C (Kd.int .u8) w2 A4 l2.length l2) := ⟨hC⟩; have CP_mine := Aside0.mk hc; clear hC hc HBc) | (go_at_call 29; refine (rtu_Frame.calls n A3 c3 l1 ([] : List Int) 1 _ OB_own.out CP_own.out HFR.out).mono ?_; rintro e w3 ⟨v0, rfl, HR, HBc⟩; obtain ⟨A5, c5, rfl, hc, hC⟩ := Kd.R_reads HR; have OBn_a : Aside0 (Kd.C (Kd.int .u8) w3 A1 l1.length l1) := ⟨Kd.C_below OB_a.out HBc⟩; have OBn_b : Aside0 (Kd.C (Kd.int .u8) w3 A2 l2.length l2) := ⟨Kd.C_below OB_b.out HBc⟩; have OBn_own : Aside0 (Kd.C (Kd.int .u8) w3 A3 l1.length l1) := ⟨Kd.C_below OB_own.out HBc⟩; have OBn_mine : Aside0 (Kd.C (Kd.int .u8) w3 A4 l2.length l2) := ⟨Kd.C_below OB_mine.out HBc⟩; have XTn : Aside0 (Ext (fun _ => False) w w3) := ⟨XT.out.stepB HBc⟩; clear OB_a OB_b OB_own OB_mine XT; have OB_a := OBn_a; have OB_b := OBn_b; have OB_own := OBn_own; have OB_mine := OBn_mine; have XT := XTn; clear OBn_a OBn_b OBn_own OBn_mine XTn; have OB_f : Aside0 (Kd.C (Kd.int .u8) w3 A5 ([] : List Int).length ([] : List Int)) := ⟨hC⟩; have CP_f := Aside0.mk hc; clear hC hc HR HBc) | (go_at_call 30; refine (rtu_Split.calls A4 c4 l2 u p g _ OB_mine.out CP_mine.out HSF.out).mono ?_; rintro e w4 ⟨v1, rfl, HQ, HBc⟩; obtain ⟨A6, c6, rfl⟩ := Kd.V_slice (Kd.Q_V (base' := 0) HQ); have HP_ := (Kd.V_reads' (Kd.Q_V (base' := 0) HQ)).2; have OBn_a : Aside0 (Kd.C (Kd.int .u8) w4 A1 l1.length l1) := ⟨Kd.C_below OB_a.out HBc⟩; have OBn_b : Aside0 (Kd.C (Kd.int .u8) w4 A2 l2.length l2) := ⟨Kd.C_below OB_b.out HBc⟩; have OBn_own : Aside0 (Kd.C (Kd.int .u8) w4 A3 l1.length l1) := ⟨Kd.C_below OB_own.out HBc⟩; have OBn_mine : Aside0 (Kd.C (Kd.int .u8) w4 A4 l2.length l2) := ⟨Kd.C_below OB_mine.out HBc⟩; have OBn_f : Aside0 (Kd.C (Kd.int .u8) w4 A5 ([] : List Int).length ([] : List Int)) := ⟨Kd.C_below OB_f.out HBc⟩; have XTn : Aside0 (Ext (fun _ => False) w w4) := ⟨XT.out.stepB HBc⟩; clear OB_a OB_b OB_own OB_mine OB_f XT; have OB_a := OBn_a; have OB_b := OBn_b; have OB_own := OBn_own; have OB_mine := OBn_mine; have OB_f := OBn_f; have XT := XTn; clear OBn_a OBn_b OBn_own OBn_mine OBn_f XTn; have OB_p : Aside0 (Kd.C (Kd.int .u8) w4 A6 p.length p) := ⟨HP_.2⟩; have CP_p := Aside0.mk HP_.1; clear HP_ HQ HBc) | (go_at_call 31; refine (refsplit A2 c2 l2 _ OB_b.out CP_2.out B2.out K2.out HS.out).mono ?_; rintro e w5 ⟨A7, c7, rfl, hC, hc, HBc⟩; have OBn_a : Aside0 (Kd.C (Kd.int .u8) w5 A1 l1.length l1) := ⟨Kd.C_below OB_a.out HBc⟩; have OBn_b : Aside0 (Kd.C (Kd.int .u8) w5 A2 l2.length l2) := ⟨Kd.C_below OB_b.out HBc⟩; have OBn_own : Aside0 (Kd.C (Kd.int .u8) w5 A3 l1.length l1) := ⟨Kd.C_below OB_own.out HBc⟩; have OBn_mine : Aside0 (Kd.C (Kd.int .u8) w5 A4 l2.length l2) := ⟨Kd.C_below OB_mine.out HBc⟩; have OBn_f : Aside0 (Kd.C (Kd.int .u8) w5 A5 ([] : List Int).length ([] : List Int)) := ⟨Kd.C_below OB_f.out HBc⟩; have OBn_p : Aside0 (Kd.C (Kd.int .u8) w5 A6 p.length p) := ⟨Kd.C_below OB_p.out HBc⟩; have XTn : Aside0 (Ext (fun _ => False) w w5) := ⟨XT.out.stepB HBc⟩; clear OB_a OB_b OB_own OB_mine OB_f OB_p XT; have OB_a := OBn_a; have OB_b := OBn_b; have OB_own := OBn_own; have OB_mine := OBn_mine; have OB_f := OBn_f; have OB_p := OBn_p; have XT := XTn; clear OBn_a OBn_b OBn_own OBn_mine OBn_f OBn_p XTn; have OB_q : Aside0 (Kd.C (Kd.int .u8) w5 A7 p.length p) := ⟨hC⟩; clear hC hc HBc; have cv0 := string_of_reads (P := Try.prog) (c := c3) Try.underlying22 Try.underlying5 Try.underlying9 (Kd.reads_of_C OB_own.out); have cv1 := string_of_reads (P := Try.prog) (c := c1) Try.underlying22 Try.underlying5 Try.underlying9 (Kd.reads_of_C OB_a.out); have cv2 := string_of_reads (P := Try.prog) (c := c4) Try.underlying22 Try.underlying5 Try.underlying9 (Kd.reads_of_C OB_mine.out); have cv3 := string_of_reads (P := Try.prog) (c := c2) Try.underlying22 Try.underlying5 Try.underlying9 (Kd.reads_of_C OB_b.out); have cv4 := string_of_reads (P := Try.prog) (c := c6) Try.underlying22 Try.underlying5 Try.underlying9 (Kd.reads_of_C OB_p.out); have cv5 := string_of_reads (P := Try.prog) (c := c7) Try.underlying22 Try.underlying5 Try.underlying9 (Kd.reads_of_C OB_q.out)) | (go_at_call 16; refine (AwakeA.awake5 _).mono ?_; rintro e w6 ⟨rfl, HBc⟩; have OBn_a : Aside0 (Kd.C (Kd.int .u8) w6 A1 l1.length l1) := ⟨Kd.C_below OB_a.out HBc⟩; have OBn_b : Aside0 (Kd.C (Kd.int .u8) w6 A2 l2.length l2) := ⟨Kd.C_below OB_b.out HBc⟩; have OBn_own : Aside0 (Kd.C (Kd.int .u8) w6 A3 l1.length l1) := ⟨Kd.C_below OB_own.out HBc⟩; have OBn_mine : Aside0 (Kd.C (Kd.int .u8) w6 A4 l2.length l2) := ⟨Kd.C_below OB_mine.out HBc⟩; have OBn_f : Aside0 (Kd.C (Kd.int .u8) w6 A5 ([] : List Int).length ([] : List Int)) := ⟨Kd.C_below OB_f.out HBc⟩; have OBn_p : Aside0 (Kd.C (Kd.int .u8) w6 A6 p.length p) := ⟨Kd.C_below OB_p.out HBc⟩; have OBn_q : Aside0 (Kd.C (Kd.int .u8) w6 A7 p.length p) := ⟨Kd.C_below OB_q.out HBc⟩; have XTn : Aside0 (Ext (fun _ => False) w w6) := ⟨XT.out.stepB HBc⟩; clear OB_a OB_b OB_own OB_mine OB_f OB_p OB_q XT; have OB_a := OBn_a; have OB_b := OBn_b; have OB_own := OBn_own; have OB_mine := OBn_mine; have OB_f := OBn_f; have OB_p := OBn_p; have OB_q := OBn_q; have XT := XTn; clear OBn_a OBn_b OBn_own OBn_mine OBn_f OBn_p OBn_q XTn; clear cv0 cv1 cv2 cv3 cv4 cv5))
  go_ret
  exact ⟨rfl, XT.out.below (fun _ e => e.elim)⟩
set_option maxHeartbeats 4000000 in
set_option maxRecDepth 100000 in
theorem rf_n2 (n : Int) (A1 : Option Addr) (c1 : Nat) (l1 : List Int) (A2 : Option Addr) (c2 : Nat) (l2 : List Int) (w : World) (hV1 : Kd.C (Kd.int .u8) w A1 l1.length l1) (hc1 : l1.length ≤ c1) (hV2 : Kd.C (Kd.int .u8) w A2 l2.length l2) (hc2 : l2.length ≤ c2) (hb1 : Bytes l1) (hb2 : Bytes l2) (k1 : l1.length ≤ 600) (k2 : l2.length ≤ 600) (u g : Int) (p fr : List Int) (hs : splitV l2 = (u, p, g)) (h0 : ¬ n < 0) (h : 247 < n) (hfr : rtu_Frame.f n l1 = some ([], 1)) :
    Calls Try.prog 11 #[.int .i64 n, .slice A1 l1.length c1, .slice A2 l2.length c2] w fun e w' => e = .returned (.bool true) ∧ Below w.heap.size w w' := by
  have t1 : decide (600 < (l1.length : Int)) = false := decide_eq_false (by omega); have t1' : decide (600 < l1.length) = false := decide_eq_false (by omega)
  have t2 : decide (600 < (l2.length : Int)) = false := decide_eq_false (by omega); have t2' : decide (600 < l2.length) = false := decide_eq_false (by omega)
  have s0 : decide (n < 0) = false := decide_eq_false (by omega)
  have s1 : decide (247 < n) = true := decide_eq_true (by omega)
  have HS := Aside0.mk hs; have HSF : Aside0 (rtu_Split.f l2 = some (u, p, g)) := ⟨by rw [split_f hb2 k2, hs]⟩; have B1 := Aside0.mk hb1; have B2 := Aside0.mk hb2; have K2 := Aside0.mk k2; have CP_1 := Aside0.mk hc1; have CP_2 := Aside0.mk hc2; have OB_a := Aside0.mk hV1; have OB_b := Aside0.mk hV2; have HFR := Aside0.mk hfr
  clear hs hb1 hb2 hc1 hc2 hV1 hV2 hfr
  have XT : Aside0 (Ext (fun _ => False) w w) := ⟨Ext.refl _ _⟩
  go_enter Try.func11, Try.ntmps11
  go_wp2_with (first | ((with_reducible refine gate_builtin (b := .append) (xs := #[.tmp 25, .tmp 26]) rfl ?_); refine HandGood.wp_copy_lit rfl (.tmp 25) (.tmp 26) 22 5 .u8 rfl Try.underlying22 Ext.info5 l1 A1 _ rfl rfl ?cv (by omega) ?_; (case cv => exact OB_a.out); intro A3 c3 w1 hC hc HBc; have OBn_a : Aside0 (Kd.C (Kd.int .u8) w1 A1 l1.length l1) := ⟨Kd.C_below OB_a.out HBc⟩; have OBn_b : Aside0 (Kd.C (Kd.int .u8) w1 A2 l2.length l2) := ⟨Kd.C_below OB_b.out HBc⟩; have XTn : Aside0 (Ext (fun _ => False) w w1) := ⟨XT.out.stepB HBc⟩; clear OB_a OB_b XT; have OB_a := OBn_a; have OB_b := OBn_b; have XT := XTn; clear OBn_a OBn_b XTn; have OB_own : Aside0 (Kd.C (Kd.int .u8) w1 A3 l1.length l1) := ⟨hC⟩; have CP_own := Aside0.mk hc; clear hC hc HBc) | ((with_reducible refine gate_builtin (b := .append) (xs := #[.tmp 28, .tmp 29]) rfl ?_); refine HandGood.wp_copy_lit rfl (.tmp 28) (.tmp 29) 22 5 .u8 rfl Try.underlying22 Ext.info5 l2 A2 _ rfl rfl ?cv (by omega) ?_; (case cv => exact OB_b.out); intro A4 c4 w2 hC hc HBc; have OBn_a : Aside0 (Kd.C (Kd.int .u8) w2 A1 l1.length l1) := ⟨Kd.C_below OB_a.out HBc⟩; have OBn_b : Aside0 (Kd.C (Kd.int .u8) w2 A2 l2.length l2) := ⟨Kd.C_below OB_b.out HBc⟩; have OBn_own : Aside0 (Kd.C (Kd.int .u8) w2 A3 l1.length l1) := ⟨Kd.C_below OB_own.out HBc⟩; have XTn : Aside0 (Ext (fun _ => False) w w2) := ⟨XT.out.stepB HBc⟩; clear OB_a OB_b OB_own XT; have OB_a := OBn_a; have OB_b := OBn_b; have OB_own := OBn_own; have XT := XTn; clear OBn_a OBn_b OBn_own XTn; have OB_mine : Aside0 (Kd.C (Kd.int .u8) w2 A4 l2.length l2) := ⟨hC⟩; have CP_mine := Aside0.mk hc; clear hC hc HBc) | (go_at_call 29; refine (rtu_Frame.calls n A3 c3 l1 ([] : List Int) 1 _ OB_own.out CP_own.out HFR.out).mono ?_; rintro e w3 ⟨v0, rfl, HR, HBc⟩; obtain ⟨A5, c5, rfl, hc, hC⟩ := Kd.R_reads HR; have OBn_a : Aside0 (Kd.C (Kd.int .u8) w3 A1 l1.length l1) := ⟨Kd.C_below OB_a.out HBc⟩; have OBn_b : Aside0 (Kd.C (Kd.int .u8) w3 A2 l2.length l2) := ⟨Kd.C_below OB_b.out HBc⟩; have OBn_own : Aside0 (Kd.C (Kd.int .u8) w3 A3 l1.length l1) := ⟨Kd.C_below OB_own.out HBc⟩; have OBn_mine : Aside0 (Kd.C (Kd.int .u8) w3 A4 l2.length l2) := ⟨Kd.C_below OB_mine.out HBc⟩; have XTn : Aside0 (Ext (fun _ => False) w w3) := ⟨XT.out.stepB HBc⟩; clear OB_a OB_b OB_own OB_mine XT; have OB_a := OBn_a; have OB_b := OBn_b; have OB_own := OBn_own; have OB_mine := OBn_mine; have XT := XTn; clear OBn_a OBn_b OBn_own OBn_mine XTn; have OB_f : Aside0 (Kd.C (Kd.int .u8) w3 A5 ([] : List Int).length ([] : List Int)) := ⟨hC⟩; have CP_f := Aside0.mk hc; clear hC hc HR HBc) | (go_at_call 30; refine (rtu_Split.calls A4 c4 l2 u p g _ OB_mine.out CP_mine.out HSF.out).mono ?_; rintro e w4 ⟨v1, rfl, HQ, HBc⟩; obtain ⟨A6, c6, rfl⟩ := Kd.V_slice (Kd.Q_V (base' := 0) HQ); have HP_ := (Kd.V_reads' (Kd.Q_V (base' := 0) HQ)).2; have OBn_a : Aside0 (Kd.C (Kd.int .u8) w4 A1 l1.length l1) := ⟨Kd.C_below OB_a.out HBc⟩; have OBn_b : Aside0 (Kd.C (Kd.int .u8) w4 A2 l2.length l2) := ⟨Kd.C_below OB_b.out HBc⟩; have OBn_own : Aside0 (Kd.C (Kd.int .u8) w4 A3 l1.length l1) := ⟨Kd.C_below OB_own.out HBc⟩; have OBn_mine : Aside0 (Kd.C (Kd.int .u8) w4 A4 l2.length l2) := ⟨Kd.C_below OB_mine.out HBc⟩; have OBn_f : Aside0 (Kd.C (Kd.int .u8) w4 A5 ([] : List Int).length ([] : List Int)) := ⟨Kd.C_below OB_f.out HBc⟩; have XTn : Aside0 (Ext (fun _ => False) w w4) := ⟨XT.out.stepB HBc⟩; clear OB_a OB_b OB_own OB_mine OB_f XT; have OB_a := OBn_a; have OB_b := OBn_b; have OB_own := OBn_own; have OB_mine := OBn_mine; have OB_f := OBn_f; have XT := XTn; clear OBn_a OBn_b OBn_own OBn_mine OBn_f XTn; have OB_p : Aside0 (Kd.C (Kd.int .u8) w4 A6 p.length p) := ⟨HP_.2⟩; have CP_p := Aside0.mk HP_.1; clear HP_ HQ HBc) | (go_at_call 31; refine (refsplit A2 c2 l2 _ OB_b.out CP_2.out B2.out K2.out HS.out).mono ?_; rintro e w5 ⟨A7, c7, rfl, hC, hc, HBc⟩; have OBn_a : Aside0 (Kd.C (Kd.int .u8) w5 A1 l1.length l1) := ⟨Kd.C_below OB_a.out HBc⟩; have OBn_b : Aside0 (Kd.C (Kd.int .u8) w5 A2 l2.length l2) := ⟨Kd.C_below OB_b.out HBc⟩; have OBn_own : Aside0 (Kd.C (Kd.int .u8) w5 A3 l1.length l1) := ⟨Kd.C_below OB_own.out HBc⟩; have OBn_mine : Aside0 (Kd.C (Kd.int .u8) w5 A4 l2.length l2) := ⟨Kd.C_below OB_mine.out HBc⟩; have OBn_f : Aside0 (Kd.C (Kd.int .u8) w5 A5 ([] : List Int).length ([] : List Int)) := ⟨Kd.C_below OB_f.out HBc⟩; have OBn_p : Aside0 (Kd.C (Kd.int .u8) w5 A6 p.length p) := ⟨Kd.C_below OB_p.out HBc⟩; have XTn : Aside0 (Ext (fun _ => False) w w5) := ⟨XT.out.stepB HBc⟩; clear OB_a OB_b OB_own OB_mine OB_f OB_p XT; have OB_a := OBn_a; have OB_b := OBn_b; have OB_own := OBn_own; have OB_mine := OBn_mine; have OB_f := OBn_f; have OB_p := OBn_p; have XT := XTn; clear OBn_a OBn_b OBn_own OBn_mine OBn_f OBn_p XTn; have OB_q : Aside0 (Kd.C (Kd.int .u8) w5 A7 p.length p) := ⟨hC⟩; clear hC hc HBc; have cv0 := string_of_reads (P := Try.prog) (c := c3) Try.underlying22 Try.underlying5 Try.underlying9 (Kd.reads_of_C OB_own.out); have cv1 := string_of_reads (P := Try.prog) (c := c1) Try.underlying22 Try.underlying5 Try.underlying9 (Kd.reads_of_C OB_a.out); have cv2 := string_of_reads (P := Try.prog) (c := c4) Try.underlying22 Try.underlying5 Try.underlying9 (Kd.reads_of_C OB_mine.out); have cv3 := string_of_reads (P := Try.prog) (c := c2) Try.underlying22 Try.underlying5 Try.underlying9 (Kd.reads_of_C OB_b.out); have cv4 := string_of_reads (P := Try.prog) (c := c6) Try.underlying22 Try.underlying5 Try.underlying9 (Kd.reads_of_C OB_p.out); have cv5 := string_of_reads (P := Try.prog) (c := c7) Try.underlying22 Try.underlying5 Try.underlying9 (Kd.reads_of_C OB_q.out)) | (go_at_call 16; refine (AwakeA.awake5 _).mono ?_; rintro e w6 ⟨rfl, HBc⟩; have OBn_a : Aside0 (Kd.C (Kd.int .u8) w6 A1 l1.length l1) := ⟨Kd.C_below OB_a.out HBc⟩; have OBn_b : Aside0 (Kd.C (Kd.int .u8) w6 A2 l2.length l2) := ⟨Kd.C_below OB_b.out HBc⟩; have OBn_own : Aside0 (Kd.C (Kd.int .u8) w6 A3 l1.length l1) := ⟨Kd.C_below OB_own.out HBc⟩; have OBn_mine : Aside0 (Kd.C (Kd.int .u8) w6 A4 l2.length l2) := ⟨Kd.C_below OB_mine.out HBc⟩; have OBn_f : Aside0 (Kd.C (Kd.int .u8) w6 A5 ([] : List Int).length ([] : List Int)) := ⟨Kd.C_below OB_f.out HBc⟩; have OBn_p : Aside0 (Kd.C (Kd.int .u8) w6 A6 p.length p) := ⟨Kd.C_below OB_p.out HBc⟩; have OBn_q : Aside0 (Kd.C (Kd.int .u8) w6 A7 p.length p) := ⟨Kd.C_below OB_q.out HBc⟩; have XTn : Aside0 (Ext (fun _ => False) w w6) := ⟨XT.out.stepB HBc⟩; clear OB_a OB_b OB_own OB_mine OB_f OB_p OB_q XT; have OB_a := OBn_a; have OB_b := OBn_b; have OB_own := OBn_own; have OB_mine := OBn_mine; have OB_f := OBn_f; have OB_p := OBn_p; have OB_q := OBn_q; have XT := XTn; clear OBn_a OBn_b OBn_own OBn_mine OBn_f OBn_p OBn_q XTn; clear cv0 cv1 cv2 cv3 cv4 cv5))
  go_ret
  exact ⟨rfl, XT.out.below (fun _ e => e.elim)⟩
set_option maxHeartbeats 4000000 in
set_option maxRecDepth 100000 in
theorem rf_n3 (n : Int) (A1 : Option Addr) (c1 : Nat) (l1 : List Int) (A2 : Option Addr) (c2 : Nat) (l2 : List Int) (w : World) (hV1 : Kd.C (Kd.int .u8) w A1 l1.length l1) (hc1 : l1.length ≤ c1) (hV2 : Kd.C (Kd.int .u8) w A2 l2.length l2) (hc2 : l2.length ≤ c2) (hb1 : Bytes l1) (hb2 : Bytes l2) (k1 : l1.length ≤ 600) (k2 : l2.length ≤ 600) (u g : Int) (p fr : List Int) (hs : splitV l2 = (u, p, g)) (h0 : ¬ n < 0) (h1 : ¬ 247 < n) (h : l1.length < 1) (hfr : rtu_Frame.f n l1 = some ([], 1)) :
    Calls Try.prog 11 #[.int .i64 n, .slice A1 l1.length c1, .slice A2 l2.length c2] w fun e w' => e = .returned (.bool true) ∧ Below w.heap.size w w' := by
  have t1 : decide (600 < (l1.length : Int)) = false := decide_eq_false (by omega); have t1' : decide (600 < l1.length) = false := decide_eq_false (by omega)
  have t2 : decide (600 < (l2.length : Int)) = false := decide_eq_false (by omega); have t2' : decide (600 < l2.length) = false := decide_eq_false (by omega)
  have s0 : decide (n < 0) = false := decide_eq_false (by omega)
  have s1 : decide (247 < n) = false := decide_eq_false (by omega)
  have s2 : decide ((l1.length : Int) < 1) = true := decide_eq_true (by omega)
  have s3 : decide (l1.length < 1) = true := decide_eq_true (by omega)
  have HS := Aside0.mk hs; have HSF : Aside0 (rtu_Split.f l2 = some (u, p, g)) := ⟨by rw [split_f hb2 k2, hs]⟩; have B1 := Aside0.mk hb1; have B2 := Aside0.mk hb2; have K2 := Aside0.mk k2; have CP_1 := Aside0.mk hc1; have CP_2 := Aside0.mk hc2; have OB_a := Aside0.mk hV1; have OB_b := Aside0.mk hV2; have HFR := Aside0.mk hfr
  clear hs hb1 hb2 hc1 hc2 hV1 hV2 hfr
  have XT : Aside0 (Ext (fun _ => False) w w) := ⟨Ext.refl _ _⟩
  go_enter Try.func11, Try.ntmps11
  go_wp2_with (first | ((with_reducible refine gate_builtin (b := .append) (xs := #[.tmp 25, .tmp 26]) rfl ?_); refine HandGood.wp_copy_lit rfl (.tmp 25) (.tmp 26) 22 5 .u8 rfl Try.underlying22 Ext.info5 l1 A1 _ rfl rfl ?cv (by omega) ?_; (case cv => exact OB_a.out); intro A3 c3 w1 hC hc HBc; have OBn_a : Aside0 (Kd.C (Kd.int .u8) w1 A1 l1.length l1) := ⟨Kd.C_below OB_a.out HBc⟩; have OBn_b : Aside0 (Kd.C (Kd.int .u8) w1 A2 l2.length l2) := ⟨Kd.C_below OB_b.out HBc⟩; have XTn : Aside0 (Ext (fun _ => False) w w1) := ⟨XT.out.stepB HBc⟩; clear OB_a OB_b XT; have OB_a := OBn_a; have OB_b := OBn_b; have XT := XTn; clear OBn_a OBn_b XTn; have OB_own : Aside0 (Kd.C (Kd.int .u8) w1 A3 l1.length l1) := ⟨hC⟩; have CP_own := Aside0.mk hc; clear hC hc HBc) | ((with_reducible refine gate_builtin (b := .append) (xs := #[.tmp 28, .tmp 29]) rfl ?_); refine HandGood.wp_copy_lit rfl (.tmp 28) (.tmp 29) 22 5 .u8 rfl Try.underlying22 Ext.info5 l2 A2 _ rfl rfl ?cv (by omega) ?_; (case cv => exact OB_b.out); intro A4 c4 w2 hC hc HBc; have OBn_a : Aside0 (Kd.C (Kd.int .u8) w2 A1 l1.length l1) := ⟨Kd.C_below OB_a.out HBc⟩; have OBn_b : Aside0 (Kd.C (Kd.int .u8) w2 A2 l2.length l2) := ⟨Kd.C_below OB_b.out HBc⟩; have OBn_own : Aside0 (Kd.C (Kd.int .u8) w2 A3 l1.length l1) := ⟨Kd.C_below OB_own.out HBc⟩; have XTn : Aside0 (Ext (fun _ => False) w w2) := ⟨XT.out.stepB HBc⟩; clear OB_a OB_b OB_own XT; have OB_a := OBn_a; have OB_b := OBn_b; have OB_own := OBn_own; have XT := XTn; clear OBn_a OBn_b OBn_own XTn; have OB_mine : Aside0 (Kd.C (Kd.int .u8) w2 A4 l2.length l2) := ⟨hC⟩; have CP_mine := Aside0.mk hc; clear hC hc HBc) | (go_at_call 29; refine (rtu_Frame.calls n A3 c3 l1 ([] : List Int) 1 _ OB_own.out CP_own.out HFR.out).mono ?_; rintro e w3 ⟨v0, rfl, HR, HBc⟩; obtain ⟨A5, c5, rfl, hc, hC⟩ := Kd.R_reads HR; have OBn_a : Aside0 (Kd.C (Kd.int .u8) w3 A1 l1.length l1) := ⟨Kd.C_below OB_a.out HBc⟩; have OBn_b : Aside0 (Kd.C (Kd.int .u8) w3 A2 l2.length l2) := ⟨Kd.C_below OB_b.out HBc⟩; have OBn_own : Aside0 (Kd.C (Kd.int .u8) w3 A3 l1.length l1) := ⟨Kd.C_below OB_own.out HBc⟩; have OBn_mine : Aside0 (Kd.C (Kd.int .u8) w3 A4 l2.length l2) := ⟨Kd.C_below OB_mine.out HBc⟩; have XTn : Aside0 (Ext (fun _ => False) w w3) := ⟨XT.out.stepB HBc⟩; clear OB_a OB_b OB_own OB_mine XT; have OB_a := OBn_a; have OB_b := OBn_b; have OB_own := OBn_own; have OB_mine := OBn_mine; have XT := XTn; clear OBn_a OBn_b OBn_own OBn_mine XTn; have OB_f : Aside0 (Kd.C (Kd.int .u8) w3 A5 ([] : List Int).length ([] : List Int)) := ⟨hC⟩; have CP_f := Aside0.mk hc; clear hC hc HR HBc) | (go_at_call 30; refine (rtu_Split.calls A4 c4 l2 u p g _ OB_mine.out CP_mine.out HSF.out).mono ?_; rintro e w4 ⟨v1, rfl, HQ, HBc⟩; obtain ⟨A6, c6, rfl⟩ := Kd.V_slice (Kd.Q_V (base' := 0) HQ); have HP_ := (Kd.V_reads' (Kd.Q_V (base' := 0) HQ)).2; have OBn_a : Aside0 (Kd.C (Kd.int .u8) w4 A1 l1.length l1) := ⟨Kd.C_below OB_a.out HBc⟩; have OBn_b : Aside0 (Kd.C (Kd.int .u8) w4 A2 l2.length l2) := ⟨Kd.C_below OB_b.out HBc⟩; have OBn_own : Aside0 (Kd.C (Kd.int .u8) w4 A3 l1.length l1) := ⟨Kd.C_below OB_own.out HBc⟩; have OBn_mine : Aside0 (Kd.C (Kd.int .u8) w4 A4 l2.length l2) := ⟨Kd.C_below OB_mine.out HBc⟩; have OBn_f : Aside0 (Kd.C (Kd.int .u8) w4 A5 ([] : List Int).length ([] : List Int)) := ⟨Kd.C_below OB_f.out HBc⟩; have XTn : Aside0 (Ext (fun _ => False) w w4) := ⟨XT.out.stepB HBc⟩; clear OB_a OB_b OB_own OB_mine OB_f XT; have OB_a := OBn_a; have OB_b := OBn_b; have OB_own := OBn_own; have OB_mine := OBn_mine; have OB_f := OBn_f; have XT := XTn; clear OBn_a OBn_b OBn_own OBn_mine OBn_f XTn; have OB_p : Aside0 (Kd.C (Kd.int .u8) w4 A6 p.length p) := ⟨HP_.2⟩; have CP_p := Aside0.mk HP_.1; clear HP_ HQ HBc) | (go_at_call 31; refine (refsplit A2 c2 l2 _ OB_b.out CP_2.out B2.out K2.out HS.out).mono ?_; rintro e w5 ⟨A7, c7, rfl, hC, hc, HBc⟩; have OBn_a : Aside0 (Kd.C (Kd.int .u8) w5 A1 l1.length l1) := ⟨Kd.C_below OB_a.out HBc⟩; have OBn_b : Aside0 (Kd.C (Kd.int .u8) w5 A2 l2.length l2) := ⟨Kd.C_below OB_b.out HBc⟩; have OBn_own : Aside0 (Kd.C (Kd.int .u8) w5 A3 l1.length l1) := ⟨Kd.C_below OB_own.out HBc⟩; have OBn_mine : Aside0 (Kd.C (Kd.int .u8) w5 A4 l2.length l2) := ⟨Kd.C_below OB_mine.out HBc⟩; have OBn_f : Aside0 (Kd.C (Kd.int .u8) w5 A5 ([] : List Int).length ([] : List Int)) := ⟨Kd.C_below OB_f.out HBc⟩; have OBn_p : Aside0 (Kd.C (Kd.int .u8) w5 A6 p.length p) := ⟨Kd.C_below OB_p.out HBc⟩; have XTn : Aside0 (Ext (fun _ => False) w w5) := ⟨XT.out.stepB HBc⟩; clear OB_a OB_b OB_own OB_mine OB_f OB_p XT; have OB_a := OBn_a; have OB_b := OBn_b; have OB_own := OBn_own; have OB_mine := OBn_mine; have OB_f := OBn_f; have OB_p := OBn_p; have XT := XTn; clear OBn_a OBn_b OBn_own OBn_mine OBn_f OBn_p XTn; have OB_q : Aside0 (Kd.C (Kd.int .u8) w5 A7 p.length p) := ⟨hC⟩; clear hC hc HBc; have cv0 := string_of_reads (P := Try.prog) (c := c3) Try.underlying22 Try.underlying5 Try.underlying9 (Kd.reads_of_C OB_own.out); have cv1 := string_of_reads (P := Try.prog) (c := c1) Try.underlying22 Try.underlying5 Try.underlying9 (Kd.reads_of_C OB_a.out); have cv2 := string_of_reads (P := Try.prog) (c := c4) Try.underlying22 Try.underlying5 Try.underlying9 (Kd.reads_of_C OB_mine.out); have cv3 := string_of_reads (P := Try.prog) (c := c2) Try.underlying22 Try.underlying5 Try.underlying9 (Kd.reads_of_C OB_b.out); have cv4 := string_of_reads (P := Try.prog) (c := c6) Try.underlying22 Try.underlying5 Try.underlying9 (Kd.reads_of_C OB_p.out); have cv5 := string_of_reads (P := Try.prog) (c := c7) Try.underlying22 Try.underlying5 Try.underlying9 (Kd.reads_of_C OB_q.out)) | (go_at_call 16; refine (AwakeA.awake5 _).mono ?_; rintro e w6 ⟨rfl, HBc⟩; have OBn_a : Aside0 (Kd.C (Kd.int .u8) w6 A1 l1.length l1) := ⟨Kd.C_below OB_a.out HBc⟩; have OBn_b : Aside0 (Kd.C (Kd.int .u8) w6 A2 l2.length l2) := ⟨Kd.C_below OB_b.out HBc⟩; have OBn_own : Aside0 (Kd.C (Kd.int .u8) w6 A3 l1.length l1) := ⟨Kd.C_below OB_own.out HBc⟩; have OBn_mine : Aside0 (Kd.C (Kd.int .u8) w6 A4 l2.length l2) := ⟨Kd.C_below OB_mine.out HBc⟩; have OBn_f : Aside0 (Kd.C (Kd.int .u8) w6 A5 ([] : List Int).length ([] : List Int)) := ⟨Kd.C_below OB_f.out HBc⟩; have OBn_p : Aside0 (Kd.C (Kd.int .u8) w6 A6 p.length p) := ⟨Kd.C_below OB_p.out HBc⟩; have OBn_q : Aside0 (Kd.C (Kd.int .u8) w6 A7 p.length p) := ⟨Kd.C_below OB_q.out HBc⟩; have XTn : Aside0 (Ext (fun _ => False) w w6) := ⟨XT.out.stepB HBc⟩; clear OB_a OB_b OB_own OB_mine OB_f OB_p OB_q XT; have OB_a := OBn_a; have OB_b := OBn_b; have OB_own := OBn_own; have OB_mine := OBn_mine; have OB_f := OBn_f; have OB_p := OBn_p; have OB_q := OBn_q; have XT := XTn; clear OBn_a OBn_b OBn_own OBn_mine OBn_f OBn_p OBn_q XTn; clear cv0 cv1 cv2 cv3 cv4 cv5))
  go_ret
  exact ⟨rfl, XT.out.below (fun _ e => e.elim)⟩
set_option maxHeartbeats 4000000 in
set_option maxRecDepth 100000 in
theorem rf_n4 (n : Int) (A1 : Option Addr) (c1 : Nat) (l1 : List Int) (A2 : Option Addr) (c2 : Nat) (l2 : List Int) (w : World) (hV1 : Kd.C (Kd.int .u8) w A1 l1.length l1) (hc1 : l1.length ≤ c1) (hV2 : Kd.C (Kd.int .u8) w A2 l2.length l2) (hc2 : l2.length ≤ c2) (hb1 : Bytes l1) (hb2 : Bytes l2) (k1 : l1.length ≤ 600) (k2 : l2.length ≤ 600) (u g : Int) (p fr : List Int) (hs : splitV l2 = (u, p, g)) (h0 : ¬ n < 0) (h1 : ¬ 247 < n) (h2 : ¬ l1.length < 1) (h : 253 < l1.length) (hfr : rtu_Frame.f n l1 = some ([], 1)) :
    Calls Try.prog 11 #[.int .i64 n, .slice A1 l1.length c1, .slice A2 l2.length c2] w fun e w' => e = .returned (.bool true) ∧ Below w.heap.size w w' := by
  have t1 : decide (600 < (l1.length : Int)) = false := decide_eq_false (by omega); have t1' : decide (600 < l1.length) = false := decide_eq_false (by omega)
  have t2 : decide (600 < (l2.length : Int)) = false := decide_eq_false (by omega); have t2' : decide (600 < l2.length) = false := decide_eq_false (by omega)
  have s0 : decide (n < 0) = false := decide_eq_false (by omega)
  have s1 : decide (247 < n) = false := decide_eq_false (by omega)
  have s2 : decide ((l1.length : Int) < 1) = false := decide_eq_false (by omega)
  have s3 : decide (l1.length < 1) = false := decide_eq_false (by omega)
  have s4 : decide (253 < (l1.length : Int)) = true := decide_eq_true (by omega)
  have s5 : decide (253 < l1.length) = true := decide_eq_true (by omega)
  have HS := Aside0.mk hs; have HSF : Aside0 (rtu_Split.f l2 = some (u, p, g)) := ⟨by rw [split_f hb2 k2, hs]⟩; have B1 := Aside0.mk hb1; have B2 := Aside0.mk hb2; have K2 := Aside0.mk k2; have CP_1 := Aside0.mk hc1; have CP_2 := Aside0.mk hc2; have OB_a := Aside0.mk hV1; have OB_b := Aside0.mk hV2; have HFR := Aside0.mk hfr
  clear hs hb1 hb2 hc1 hc2 hV1 hV2 hfr
  have XT : Aside0 (Ext (fun _ => False) w w) := ⟨Ext.refl _ _⟩
  go_enter Try.func11, Try.ntmps11
  go_wp2_with (first | ((with_reducible refine gate_builtin (b := .append) (xs := #[.tmp 25, .tmp 26]) rfl ?_); refine HandGood.wp_copy_lit rfl (.tmp 25) (.tmp 26) 22 5 .u8 rfl Try.underlying22 Ext.info5 l1 A1 _ rfl rfl ?cv (by omega) ?_; (case cv => exact OB_a.out); intro A3 c3 w1 hC hc HBc; have OBn_a : Aside0 (Kd.C (Kd.int .u8) w1 A1 l1.length l1) := ⟨Kd.C_below OB_a.out HBc⟩; have OBn_b : Aside0 (Kd.C (Kd.int .u8) w1 A2 l2.length l2) := ⟨Kd.C_below OB_b.out HBc⟩; have XTn : Aside0 (Ext (fun _ => False) w w1) := ⟨XT.out.stepB HBc⟩; clear OB_a OB_b XT; have OB_a := OBn_a; have OB_b := OBn_b; have XT := XTn; clear OBn_a OBn_b XTn; have OB_own : Aside0 (Kd.C (Kd.int .u8) w1 A3 l1.length l1) := ⟨hC⟩; have CP_own := Aside0.mk hc; clear hC hc HBc) | ((with_reducible refine gate_builtin (b := .append) (xs := #[.tmp 28, .tmp 29]) rfl ?_); refine HandGood.wp_copy_lit rfl (.tmp 28) (.tmp 29) 22 5 .u8 rfl Try.underlying22 Ext.info5 l2 A2 _ rfl rfl ?cv (by omega) ?_; (case cv => exact OB_b.out); intro A4 c4 w2 hC hc HBc; have OBn_a : Aside0 (Kd.C (Kd.int .u8) w2 A1 l1.length l1) := ⟨Kd.C_below OB_a.out HBc⟩; have OBn_b : Aside0 (Kd.C (Kd.int .u8) w2 A2 l2.length l2) := ⟨Kd.C_below OB_b.out HBc⟩; have OBn_own : Aside0 (Kd.C (Kd.int .u8) w2 A3 l1.length l1) := ⟨Kd.C_below OB_own.out HBc⟩; have XTn : Aside0 (Ext (fun _ => False) w w2) := ⟨XT.out.stepB HBc⟩; clear OB_a OB_b OB_own XT; have OB_a := OBn_a; have OB_b := OBn_b; have OB_own := OBn_own; have XT := XTn; clear OBn_a OBn_b OBn_own XTn; have OB_mine : Aside0 (Kd.C (Kd.int .u8) w2 A4 l2.length l2) := ⟨hC⟩; have CP_mine := Aside0.mk hc; clear hC hc HBc) | (go_at_call 29; refine (rtu_Frame.calls n A3 c3 l1 ([] : List Int) 1 _ OB_own.out CP_own.out HFR.out).mono ?_; rintro e w3 ⟨v0, rfl, HR, HBc⟩; obtain ⟨A5, c5, rfl, hc, hC⟩ := Kd.R_reads HR; have OBn_a : Aside0 (Kd.C (Kd.int .u8) w3 A1 l1.length l1) := ⟨Kd.C_below OB_a.out HBc⟩; have OBn_b : Aside0 (Kd.C (Kd.int .u8) w3 A2 l2.length l2) := ⟨Kd.C_below OB_b.out HBc⟩; have OBn_own : Aside0 (Kd.C (Kd.int .u8) w3 A3 l1.length l1) := ⟨Kd.C_below OB_own.out HBc⟩; have OBn_mine : Aside0 (Kd.C (Kd.int .u8) w3 A4 l2.length l2) := ⟨Kd.C_below OB_mine.out HBc⟩; have XTn : Aside0 (Ext (fun _ => False) w w3) := ⟨XT.out.stepB HBc⟩; clear OB_a OB_b OB_own OB_mine XT; have OB_a := OBn_a; have OB_b := OBn_b; have OB_own := OBn_own; have OB_mine := OBn_mine; have XT := XTn; clear OBn_a OBn_b OBn_own OBn_mine XTn; have OB_f : Aside0 (Kd.C (Kd.int .u8) w3 A5 ([] : List Int).length ([] : List Int)) := ⟨hC⟩; have CP_f := Aside0.mk hc; clear hC hc HR HBc) | (go_at_call 30; refine (rtu_Split.calls A4 c4 l2 u p g _ OB_mine.out CP_mine.out HSF.out).mono ?_; rintro e w4 ⟨v1, rfl, HQ, HBc⟩; obtain ⟨A6, c6, rfl⟩ := Kd.V_slice (Kd.Q_V (base' := 0) HQ); have HP_ := (Kd.V_reads' (Kd.Q_V (base' := 0) HQ)).2; have OBn_a : Aside0 (Kd.C (Kd.int .u8) w4 A1 l1.length l1) := ⟨Kd.C_below OB_a.out HBc⟩; have OBn_b : Aside0 (Kd.C (Kd.int .u8) w4 A2 l2.length l2) := ⟨Kd.C_below OB_b.out HBc⟩; have OBn_own : Aside0 (Kd.C (Kd.int .u8) w4 A3 l1.length l1) := ⟨Kd.C_below OB_own.out HBc⟩; have OBn_mine : Aside0 (Kd.C (Kd.int .u8) w4 A4 l2.length l2) := ⟨Kd.C_below OB_mine.out HBc⟩; have OBn_f : Aside0 (Kd.C (Kd.int .u8) w4 A5 ([] : List Int).length ([] : List Int)) := ⟨Kd.C_below OB_f.out HBc⟩; have XTn : Aside0 (Ext (fun _ => False) w w4) := ⟨XT.out.stepB HBc⟩; clear OB_a OB_b OB_own OB_mine OB_f XT; have OB_a := OBn_a; have OB_b := OBn_b; have OB_own := OBn_own; have OB_mine := OBn_mine; have OB_f := OBn_f; have XT := XTn; clear OBn_a OBn_b OBn_own OBn_mine OBn_f XTn; have OB_p : Aside0 (Kd.C (Kd.int .u8) w4 A6 p.length p) := ⟨HP_.2⟩; have CP_p := Aside0.mk HP_.1; clear HP_ HQ HBc) | (go_at_call 31; refine (refsplit A2 c2 l2 _ OB_b.out CP_2.out B2.out K2.out HS.out).mono ?_; rintro e w5 ⟨A7, c7, rfl, hC, hc, HBc⟩; have OBn_a : Aside0 (Kd.C (Kd.int .u8) w5 A1 l1.length l1) := ⟨Kd.C_below OB_a.out HBc⟩; have OBn_b : Aside0 (Kd.C (Kd.int .u8) w5 A2 l2.length l2) := ⟨Kd.C_below OB_b.out HBc⟩; have OBn_own : Aside0 (Kd.C (Kd.int .u8) w5 A3 l1.length l1) := ⟨Kd.C_below OB_own.out HBc⟩; have OBn_mine : Aside0 (Kd.C (Kd.int .u8) w5 A4 l2.length l2) := ⟨Kd.C_below OB_mine.out HBc⟩; have OBn_f : Aside0 (Kd.C (Kd.int .u8) w5 A5 ([] : List Int).length ([] : List Int)) := ⟨Kd.C_below OB_f.out HBc⟩; have OBn_p : Aside0 (Kd.C (Kd.int .u8) w5 A6 p.length p) := ⟨Kd.C_below OB_p.out HBc⟩; have XTn : Aside0 (Ext (fun _ => False) w w5) := ⟨XT.out.stepB HBc⟩; clear OB_a OB_b OB_own OB_mine OB_f OB_p XT; have OB_a := OBn_a; have OB_b := OBn_b; have OB_own := OBn_own; have OB_mine := OBn_mine; have OB_f := OBn_f; have OB_p := OBn_p; have XT := XTn; clear OBn_a OBn_b OBn_own OBn_mine OBn_f OBn_p XTn; have OB_q : Aside0 (Kd.C (Kd.int .u8) w5 A7 p.length p) := ⟨hC⟩; clear hC hc HBc; have cv0 := string_of_reads (P := Try.prog) (c := c3) Try.underlying22 Try.underlying5 Try.underlying9 (Kd.reads_of_C OB_own.out); have cv1 := string_of_reads (P := Try.prog) (c := c1) Try.underlying22 Try.underlying5 Try.underlying9 (Kd.reads_of_C OB_a.out); have cv2 := string_of_reads (P := Try.prog) (c := c4) Try.underlying22 Try.underlying5 Try.underlying9 (Kd.reads_of_C OB_mine.out); have cv3 := string_of_reads (P := Try.prog) (c := c2) Try.underlying22 Try.underlying5 Try.underlying9 (Kd.reads_of_C OB_b.out); have cv4 := string_of_reads (P := Try.prog) (c := c6) Try.underlying22 Try.underlying5 Try.underlying9 (Kd.reads_of_C OB_p.out); have cv5 := string_of_reads (P := Try.prog) (c := c7) Try.underlying22 Try.underlying5 Try.underlying9 (Kd.reads_of_C OB_q.out)) | (go_at_call 16; refine (AwakeA.awake5 _).mono ?_; rintro e w6 ⟨rfl, HBc⟩; have OBn_a : Aside0 (Kd.C (Kd.int .u8) w6 A1 l1.length l1) := ⟨Kd.C_below OB_a.out HBc⟩; have OBn_b : Aside0 (Kd.C (Kd.int .u8) w6 A2 l2.length l2) := ⟨Kd.C_below OB_b.out HBc⟩; have OBn_own : Aside0 (Kd.C (Kd.int .u8) w6 A3 l1.length l1) := ⟨Kd.C_below OB_own.out HBc⟩; have OBn_mine : Aside0 (Kd.C (Kd.int .u8) w6 A4 l2.length l2) := ⟨Kd.C_below OB_mine.out HBc⟩; have OBn_f : Aside0 (Kd.C (Kd.int .u8) w6 A5 ([] : List Int).length ([] : List Int)) := ⟨Kd.C_below OB_f.out HBc⟩; have OBn_p : Aside0 (Kd.C (Kd.int .u8) w6 A6 p.length p) := ⟨Kd.C_below OB_p.out HBc⟩; have OBn_q : Aside0 (Kd.C (Kd.int .u8) w6 A7 p.length p) := ⟨Kd.C_below OB_q.out HBc⟩; have XTn : Aside0 (Ext (fun _ => False) w w6) := ⟨XT.out.stepB HBc⟩; clear OB_a OB_b OB_own OB_mine OB_f OB_p OB_q XT; have OB_a := OBn_a; have OB_b := OBn_b; have OB_own := OBn_own; have OB_mine := OBn_mine; have OB_f := OBn_f; have OB_p := OBn_p; have OB_q := OBn_q; have XT := XTn; clear OBn_a OBn_b OBn_own OBn_mine OBn_f OBn_p OBn_q XTn; clear cv0 cv1 cv2 cv3 cv4 cv5))
  go_ret
  exact ⟨rfl, XT.out.below (fun _ e => e.elim)⟩
set_option maxHeartbeats 4000000 in
set_option maxRecDepth 100000 in
theorem rf_yes (n : Int) (A1 : Option Addr) (c1 : Nat) (l1 : List Int) (A2 : Option Addr) (c2 : Nat) (l2 : List Int) (w : World) (hV1 : Kd.C (Kd.int .u8) w A1 l1.length l1) (hc1 : l1.length ≤ c1) (hV2 : Kd.C (Kd.int .u8) w A2 l2.length l2) (hc2 : l2.length ≤ c2) (hb1 : Bytes l1) (hb2 : Bytes l2) (k1 : l1.length ≤ 600) (k2 : l2.length ≤ 600) (u g : Int) (p fr : List Int) (hs : splitV l2 = (u, p, g)) (h0 : ¬ n < 0) (h1 : ¬ 247 < n) (h2 : ¬ l1.length < 1) (h3 : ¬ 253 < l1.length) (hfr : rtu_Frame.f n l1 = some (fr, 0)) (hr : basculeref05_Frame.f 1000 n l1 = some fr) :
    Calls Try.prog 11 #[.int .i64 n, .slice A1 l1.length c1, .slice A2 l2.length c2] w fun e w' => e = .returned (.bool true) ∧ Below w.heap.size w w' := by
  have t1 : decide (600 < (l1.length : Int)) = false := decide_eq_false (by omega); have t1' : decide (600 < l1.length) = false := decide_eq_false (by omega)
  have t2 : decide (600 < (l2.length : Int)) = false := decide_eq_false (by omega); have t2' : decide (600 < l2.length) = false := decide_eq_false (by omega)
  have s0 : decide (n < 0) = false := decide_eq_false (by omega)
  have s1 : decide (247 < n) = false := decide_eq_false (by omega)
  have s2 : decide ((l1.length : Int) < 1) = false := decide_eq_false (by omega)
  have s3 : decide (l1.length < 1) = false := decide_eq_false (by omega)
  have s4 : decide (253 < (l1.length : Int)) = false := decide_eq_false (by omega)
  have s5 : decide (253 < l1.length) = false := decide_eq_false (by omega)
  have HS := Aside0.mk hs; have HSF : Aside0 (rtu_Split.f l2 = some (u, p, g)) := ⟨by rw [split_f hb2 k2, hs]⟩; have B1 := Aside0.mk hb1; have B2 := Aside0.mk hb2; have K2 := Aside0.mk k2; have CP_1 := Aside0.mk hc1; have CP_2 := Aside0.mk hc2; have OB_a := Aside0.mk hV1; have OB_b := Aside0.mk hV2; have HFR := Aside0.mk hfr
  have HRR := Aside0.mk hr; clear hs hb1 hb2 hc1 hc2 hV1 hV2 hfr hr
  have XT : Aside0 (Ext (fun _ => False) w w) := ⟨Ext.refl _ _⟩
  go_enter Try.func11, Try.ntmps11
  go_upto_region 12 with (first | ((with_reducible refine gate_builtin (b := .append) (xs := #[.tmp 25, .tmp 26]) rfl ?_); refine HandGood.wp_copy_lit rfl (.tmp 25) (.tmp 26) 22 5 .u8 rfl Try.underlying22 Ext.info5 l1 A1 _ rfl rfl ?cv (by omega) ?_; (case cv => exact OB_a.out); intro A3 c3 w1 hC hc HBc; have OBn_a : Aside0 (Kd.C (Kd.int .u8) w1 A1 l1.length l1) := ⟨Kd.C_below OB_a.out HBc⟩; have OBn_b : Aside0 (Kd.C (Kd.int .u8) w1 A2 l2.length l2) := ⟨Kd.C_below OB_b.out HBc⟩; have XTn : Aside0 (Ext (fun _ => False) w w1) := ⟨XT.out.stepB HBc⟩; clear OB_a OB_b XT; have OB_a := OBn_a; have OB_b := OBn_b; have XT := XTn; clear OBn_a OBn_b XTn; have OB_own : Aside0 (Kd.C (Kd.int .u8) w1 A3 l1.length l1) := ⟨hC⟩; have CP_own := Aside0.mk hc; clear hC hc HBc) | ((with_reducible refine gate_builtin (b := .append) (xs := #[.tmp 28, .tmp 29]) rfl ?_); refine HandGood.wp_copy_lit rfl (.tmp 28) (.tmp 29) 22 5 .u8 rfl Try.underlying22 Ext.info5 l2 A2 _ rfl rfl ?cv (by omega) ?_; (case cv => exact OB_b.out); intro A4 c4 w2 hC hc HBc; have OBn_a : Aside0 (Kd.C (Kd.int .u8) w2 A1 l1.length l1) := ⟨Kd.C_below OB_a.out HBc⟩; have OBn_b : Aside0 (Kd.C (Kd.int .u8) w2 A2 l2.length l2) := ⟨Kd.C_below OB_b.out HBc⟩; have OBn_own : Aside0 (Kd.C (Kd.int .u8) w2 A3 l1.length l1) := ⟨Kd.C_below OB_own.out HBc⟩; have XTn : Aside0 (Ext (fun _ => False) w w2) := ⟨XT.out.stepB HBc⟩; clear OB_a OB_b OB_own XT; have OB_a := OBn_a; have OB_b := OBn_b; have OB_own := OBn_own; have XT := XTn; clear OBn_a OBn_b OBn_own XTn; have OB_mine : Aside0 (Kd.C (Kd.int .u8) w2 A4 l2.length l2) := ⟨hC⟩; have CP_mine := Aside0.mk hc; clear hC hc HBc) | (go_at_call 29; refine (rtu_Frame.calls n A3 c3 l1 fr 0 _ OB_own.out CP_own.out HFR.out).mono ?_; rintro e w3 ⟨v0, rfl, HR, HBc⟩; obtain ⟨A5, c5, rfl, hc, hC⟩ := Kd.R_reads HR; have OBn_a : Aside0 (Kd.C (Kd.int .u8) w3 A1 l1.length l1) := ⟨Kd.C_below OB_a.out HBc⟩; have OBn_b : Aside0 (Kd.C (Kd.int .u8) w3 A2 l2.length l2) := ⟨Kd.C_below OB_b.out HBc⟩; have OBn_own : Aside0 (Kd.C (Kd.int .u8) w3 A3 l1.length l1) := ⟨Kd.C_below OB_own.out HBc⟩; have OBn_mine : Aside0 (Kd.C (Kd.int .u8) w3 A4 l2.length l2) := ⟨Kd.C_below OB_mine.out HBc⟩; have XTn : Aside0 (Ext (fun _ => False) w w3) := ⟨XT.out.stepB HBc⟩; clear OB_a OB_b OB_own OB_mine XT; have OB_a := OBn_a; have OB_b := OBn_b; have OB_own := OBn_own; have OB_mine := OBn_mine; have XT := XTn; clear OBn_a OBn_b OBn_own OBn_mine XTn; have OB_f : Aside0 (Kd.C (Kd.int .u8) w3 A5 fr.length fr) := ⟨hC⟩; have CP_f := Aside0.mk hc; clear hC hc HR HBc) | (go_at_call 30; refine (rtu_Split.calls A4 c4 l2 u p g _ OB_mine.out CP_mine.out HSF.out).mono ?_; rintro e w4 ⟨v1, rfl, HQ, HBc⟩; obtain ⟨A6, c6, rfl⟩ := Kd.V_slice (Kd.Q_V (base' := 0) HQ); have HP_ := (Kd.V_reads' (Kd.Q_V (base' := 0) HQ)).2; have OBn_a : Aside0 (Kd.C (Kd.int .u8) w4 A1 l1.length l1) := ⟨Kd.C_below OB_a.out HBc⟩; have OBn_b : Aside0 (Kd.C (Kd.int .u8) w4 A2 l2.length l2) := ⟨Kd.C_below OB_b.out HBc⟩; have OBn_own : Aside0 (Kd.C (Kd.int .u8) w4 A3 l1.length l1) := ⟨Kd.C_below OB_own.out HBc⟩; have OBn_mine : Aside0 (Kd.C (Kd.int .u8) w4 A4 l2.length l2) := ⟨Kd.C_below OB_mine.out HBc⟩; have OBn_f : Aside0 (Kd.C (Kd.int .u8) w4 A5 fr.length fr) := ⟨Kd.C_below OB_f.out HBc⟩; have XTn : Aside0 (Ext (fun _ => False) w w4) := ⟨XT.out.stepB HBc⟩; clear OB_a OB_b OB_own OB_mine OB_f XT; have OB_a := OBn_a; have OB_b := OBn_b; have OB_own := OBn_own; have OB_mine := OBn_mine; have OB_f := OBn_f; have XT := XTn; clear OBn_a OBn_b OBn_own OBn_mine OBn_f XTn; have OB_p : Aside0 (Kd.C (Kd.int .u8) w4 A6 p.length p) := ⟨HP_.2⟩; have CP_p := Aside0.mk HP_.1; clear HP_ HQ HBc) | (go_at_call 31; refine (refsplit A2 c2 l2 _ OB_b.out CP_2.out B2.out K2.out HS.out).mono ?_; rintro e w5 ⟨A7, c7, rfl, hC, hc, HBc⟩; have OBn_a : Aside0 (Kd.C (Kd.int .u8) w5 A1 l1.length l1) := ⟨Kd.C_below OB_a.out HBc⟩; have OBn_b : Aside0 (Kd.C (Kd.int .u8) w5 A2 l2.length l2) := ⟨Kd.C_below OB_b.out HBc⟩; have OBn_own : Aside0 (Kd.C (Kd.int .u8) w5 A3 l1.length l1) := ⟨Kd.C_below OB_own.out HBc⟩; have OBn_mine : Aside0 (Kd.C (Kd.int .u8) w5 A4 l2.length l2) := ⟨Kd.C_below OB_mine.out HBc⟩; have OBn_f : Aside0 (Kd.C (Kd.int .u8) w5 A5 fr.length fr) := ⟨Kd.C_below OB_f.out HBc⟩; have OBn_p : Aside0 (Kd.C (Kd.int .u8) w5 A6 p.length p) := ⟨Kd.C_below OB_p.out HBc⟩; have XTn : Aside0 (Ext (fun _ => False) w w5) := ⟨XT.out.stepB HBc⟩; clear OB_a OB_b OB_own OB_mine OB_f OB_p XT; have OB_a := OBn_a; have OB_b := OBn_b; have OB_own := OBn_own; have OB_mine := OBn_mine; have OB_f := OBn_f; have OB_p := OBn_p; have XT := XTn; clear OBn_a OBn_b OBn_own OBn_mine OBn_f OBn_p XTn; have OB_q : Aside0 (Kd.C (Kd.int .u8) w5 A7 p.length p) := ⟨hC⟩; clear hC hc HBc; have cv0 := string_of_reads (P := Try.prog) (c := c3) Try.underlying22 Try.underlying5 Try.underlying9 (Kd.reads_of_C OB_own.out); have cv1 := string_of_reads (P := Try.prog) (c := c1) Try.underlying22 Try.underlying5 Try.underlying9 (Kd.reads_of_C OB_a.out); have cv2 := string_of_reads (P := Try.prog) (c := c4) Try.underlying22 Try.underlying5 Try.underlying9 (Kd.reads_of_C OB_mine.out); have cv3 := string_of_reads (P := Try.prog) (c := c2) Try.underlying22 Try.underlying5 Try.underlying9 (Kd.reads_of_C OB_b.out); have cv4 := string_of_reads (P := Try.prog) (c := c6) Try.underlying22 Try.underlying5 Try.underlying9 (Kd.reads_of_C OB_p.out); have cv5 := string_of_reads (P := Try.prog) (c := c7) Try.underlying22 Try.underlying5 Try.underlying9 (Kd.reads_of_C OB_q.out)))
  clear cv0 cv1 cv2 cv3 cv4 cv5
  refine start_ (n := 15) (S := fun W => Sem.run Try.prog (convert 22 9 (.slice A5 fr.length c5)) W = .ok (.string (strOfNums fr)) W) (ds := []) #[false, false, false, false, false, false, false, false, false, false, false, false, false, false, false] (by kernel_rfl) rfl rfl ?_ (fun hHeld => ?_)
  · first | exact string_of_reads (P := Try.prog) (c := c5) Try.underlying22 Try.underlying5 Try.underlying9 (Kd.reads_of_C (Kd.C_drew OB_f.out)) | exact string_of_reads (P := Try.prog) (c := c5) Try.underlying22 Try.underlying5 Try.underlying9 (Kd.reads_of_C HF7.out)
  refine one_ (i := 0) (N := some 104) #[true, false, false, false, false, false, false, false, false, false, false, false, false, false, false] rfl rfl (by kernel_rfl) (by decide) (fun K hK => ?_)
  refine goes_ Try.func16 (by kernel_rfl) rfl #[] (by rfl) rfl rfl (by (try simp only [List.map_toArray, List.map_cons, List.map_nil]); first | done | rfl) ?_
  refine (AwakeA.awake5 _).mono ?_
  rintro e w6 ⟨rfl, HB6⟩
  refine ⟨_, rfl, ?_⟩
  have HF7 := Aside0.mk (Kd.C_below (Kd.C_drew OB_f.out) HB6); have HA7 := Aside0.mk (Kd.C_below (Kd.C_drew OB_a.out) HB6); have HX7 := Aside0.mk (XT.out.stepB (below_step (below_drew1 (Below.refl _ _)) HB6)); clear OB_f HB6
  refine hK.out _ _ ?_ (fun hHeld => ?_)
  · first | exact string_of_reads (P := Try.prog) (c := c5) Try.underlying22 Try.underlying5 Try.underlying9 (Kd.reads_of_C (Kd.C_drew OB_f.out)) | exact string_of_reads (P := Try.prog) (c := c5) Try.underlying22 Try.underlying5 Try.underlying9 (Kd.reads_of_C HF7.out)
  clear hK K
  refine norm_ (a' := ?_) ?_ ?_
  rotate_left
  · show Act.put _ (some 104) _ = _
    simp only [Act.put, List.setIfInBounds_toArray, List.set_cons_zero, List.set_cons_succ, i64_w, i32_w]
    rfl
  refine pure_ (i := 1) (N := some 105) (v := ?_) (a' := ?_) #[true, true, false, false, false, false, false, false, false, false, false, false, false, false, false] rfl rfl (by kernel_rfl) (fun _ _ _ h => h) (Or.inl ⟨by rfl, ?_⟩) ?_ ?_
  rotate_left
  · intro w'
    go_simp
    with_reducible rfl
  rotate_left
  · simp only [Act.put, List.setIfInBounds_toArray, List.set_cons_zero, List.set_cons_succ, i64_w, i32_w]
    rfl
  refine pure_ (i := 2) (N := some 106) (v := ?_) (a' := ?_) #[true, true, true, false, false, false, false, false, false, false, false, false, false, false, false] rfl rfl (by kernel_rfl) (fun _ _ _ h => h) (Or.inl ⟨by rfl, ?_⟩) ?_ ?_
  rotate_left
  · intro w'
    go_simp
    with_reducible rfl
  rotate_left
  · simp only [Act.put, List.setIfInBounds_toArray, List.set_cons_zero, List.set_cons_succ, i64_w, i32_w]
    rfl
  refine pure_ (i := 3) (N := some 107) (v := ?_) (a' := ?_) #[true, true, true, true, false, false, false, false, false, false, false, false, false, false, false] rfl rfl (by kernel_rfl) (fun _ _ _ h => h) (Or.inl ⟨by rfl, ?_⟩) ?_ ?_
  rotate_left
  · intro w'
    go_simp
    with_reducible rfl
  rotate_left
  · simp only [Act.put, List.setIfInBounds_toArray, List.set_cons_zero, List.set_cons_succ, i64_w, i32_w]
    rfl
  refine pure_ (i := 4) (N := some 108) (v := ?_) (a' := ?_) #[true, true, true, true, true, false, false, false, false, false, false, false, false, false, false] rfl rfl (by kernel_rfl) (fun _ _ _ h => h) (Or.inl ⟨by rfl, ?_⟩) ?_ ?_
  rotate_left
  · intro w'
    go_simp
    with_reducible rfl
  rotate_left
  · simp only [Act.put, List.setIfInBounds_toArray, List.set_cons_zero, List.set_cons_succ, i64_w, i32_w]
    rfl
  refine pure_ (i := 5) (N := some 109) (v := ?_) (a' := ?_) #[true, true, true, true, true, true, false, false, false, false, false, false, false, false, false] rfl rfl (by kernel_rfl) (fun _ _ _ h => h) (Or.inl ⟨by rfl, ?_⟩) ?_ ?_
  rotate_left
  · intro w'
    go_simp
    with_reducible rfl
  rotate_left
  · simp only [Act.put, List.setIfInBounds_toArray, List.set_cons_zero, List.set_cons_succ, i64_w, i32_w]
    rfl
  refine pure_ (i := 6) (N := some 110) (v := ?_) (a' := ?_) #[true, true, true, true, true, true, true, false, false, false, false, false, false, false, false] rfl rfl (by kernel_rfl) (fun _ _ _ h => h) (Or.inl ⟨by rfl, ?_⟩) ?_ ?_
  rotate_left
  · intro w'
    go_simp
    with_reducible rfl
  rotate_left
  · simp only [Act.put, List.setIfInBounds_toArray, List.set_cons_zero, List.set_cons_succ, i64_w, i32_w]
    rfl
  refine take_ (i := 7) (N := some 111) (v := ?_) (a' := ?_) #[true, true, true, true, true, true, true, true, false, false, false, false, false, false, false] rfl rfl (by kernel_rfl) (fun _ _ _ h => h) (Or.inl ⟨by rfl, ?_⟩) hHeld ?_ ?_
  rotate_left
  · rintro w' hS_
    go_simp
    with_reducible rfl
  rotate_left
  · simp only [Act.put, List.setIfInBounds_toArray, List.set_cons_zero, List.set_cons_succ, i64_w, i32_w]
    rfl
  refine pure_ (i := 8) (N := some 112) (v := ?_) (a' := ?_) #[true, true, true, true, true, true, true, true, true, false, false, false, false, false, false] rfl rfl (by kernel_rfl) (fun _ _ _ h => h) (Or.inl ⟨by rfl, ?_⟩) ?_ ?_
  rotate_left
  · intro w'
    go_simp
    with_reducible rfl
  rotate_left
  · simp only [Act.put, List.setIfInBounds_toArray, List.set_cons_zero, List.set_cons_succ, i64_w, i32_w]
    rfl
  refine pure_ (i := 9) (N := some 113) (v := ?_) (a' := ?_) #[true, true, true, true, true, true, true, true, true, true, false, false, false, false, false] rfl rfl (by kernel_rfl) (fun _ _ _ h => h) (Or.inl ⟨by rfl, ?_⟩) ?_ ?_
  rotate_left
  · intro w'
    go_simp
    with_reducible rfl
  rotate_left
  · simp only [Act.put, List.setIfInBounds_toArray, List.set_cons_zero, List.set_cons_succ, i64_w, i32_w]
    rfl
  refine one_ (i := 10) (N := some 114) #[true, true, true, true, true, true, true, true, true, true, true, false, false, false, false] rfl rfl (by kernel_rfl) (by decide) (fun K hK => ?_)
  refine goes_ Try.func32 (by kernel_rfl) rfl #[.int .i64 n, .slice A1 l1.length c1] (by rfl) rfl rfl (by (try simp only [List.map_toArray, List.map_cons, List.map_nil]); first | done | rfl) ?_
  refine (basculeref05_Frame.calls 1000 n A1 c1 l1 fr _ HA7.out CP_1.out HRR.out).mono ?_
  rintro e w7 ⟨v0, rfl, HR8, HB8⟩
  obtain ⟨A8, c8, rfl, hc8, hC8⟩ := Kd.R_reads HR8
  refine ⟨_, rfl, ?_⟩
  have HF8 := Aside0.mk (Kd.C_below HF7.out HB8); have HX8 := Aside0.mk (HX7.out.stepB HB8); have HC8 := Aside0.mk hC8; clear HF7 HA7 HX7 HR8 HB8 hC8 hc8; have HF7 := HF8; have HX7 := HX8
  refine hK.out _ _ ?_ (fun hHeld => ?_)
  · first | exact string_of_reads (P := Try.prog) (c := c5) Try.underlying22 Try.underlying5 Try.underlying9 (Kd.reads_of_C (Kd.C_drew OB_f.out)) | exact string_of_reads (P := Try.prog) (c := c5) Try.underlying22 Try.underlying5 Try.underlying9 (Kd.reads_of_C HF7.out)
  clear hK K
  refine norm_ (a' := ?_) ?_ ?_
  rotate_left
  · show Act.put _ (some 114) _ = _
    simp only [Act.put, List.setIfInBounds_toArray, List.set_cons_zero, List.set_cons_succ, i64_w, i32_w]
    rfl
  refine more1_ (S' := fun W => Sem.run Try.prog (convert 22 9 (.slice A5 fr.length c5)) W = .ok (.string (strOfNums fr)) W ∧ Sem.run Try.prog (convert 22 9 (.slice A8 fr.length c8)) W = .ok (.string (strOfNums fr)) W) (fun W h_ => h_.1) ?_ (fun hHeld => ?_)
  · exact ⟨string_of_reads (P := Try.prog) (c := c5) Try.underlying22 Try.underlying5 Try.underlying9 (Kd.reads_of_C HF7.out), string_of_reads (P := Try.prog) (c := c8) Try.underlying22 Try.underlying5 Try.underlying9 (Kd.reads_of_C HC8.out)⟩
  refine take_ (i := 11) (N := some 115) (v := ?_) (a' := ?_) #[true, true, true, true, true, true, true, true, true, true, true, true, false, false, false] rfl rfl (by kernel_rfl) (fun _ _ _ h => h) (Or.inl ⟨by rfl, ?_⟩) hHeld ?_ ?_
  rotate_left
  · rintro w' ⟨s0, s1⟩
    go_simp
    with_reducible rfl
  rotate_left
  · simp only [Act.put, List.setIfInBounds_toArray, List.set_cons_zero, List.set_cons_succ, i64_w, i32_w]
    rfl
  refine pure_ (i := 12) (N := some 116) (v := ?_) (a' := ?_) #[true, true, true, true, true, true, true, true, true, true, true, true, true, false, false] rfl rfl (by kernel_rfl) (fun _ _ _ h => h) (Or.inl ⟨by rfl, ?_⟩) ?_ ?_
  rotate_left
  · intro w'
    go_simp
    with_reducible rfl
  rotate_left
  · simp only [Act.put, List.setIfInBounds_toArray, List.set_cons_zero, List.set_cons_succ, i64_w, i32_w]
    rfl
  refine pure_ (i := 13) (N := some 117) (v := ?_) (a' := ?_) #[true, true, true, true, true, true, true, true, true, true, true, true, true, true, false] rfl rfl (by kernel_rfl) (fun _ _ _ h => h) (Or.inl ⟨by rfl, ?_⟩) ?_ ?_
  rotate_left
  · intro w'
    go_simp
    with_reducible rfl
  rotate_left
  · simp only [Act.put, List.setIfInBounds_toArray, List.set_cons_zero, List.set_cons_succ, i64_w, i32_w]
    rfl
  refine pure_ (i := 14) (N := some 6) (v := ?_) (a' := ?_) #[true, true, true, true, true, true, true, true, true, true, true, true, true, true, true] rfl rfl (by kernel_rfl) (fun _ _ _ h => h) (Or.inl ⟨by rfl, ?_⟩) ?_ ?_
  rotate_left
  · intro w'
    go_simp
    with_reducible rfl
  rotate_left
  · simp only [Act.put, List.setIfInBounds_toArray, List.set_cons_zero, List.set_cons_succ, i64_w, i32_w]
    rfl
  refine done_ (by kernel_rfl) ?_
  go_wp2
  go_ret
  exact ⟨by simp, HX7.out.below (fun _ e => e.elim)⟩
theorem frames_row (n : Int) (A1 : Option Addr) (c1 : Nat) (l1 : List Int) (A2 : Option Addr) (c2 : Nat) (l2 : List Int) (w : World) (_ : -9223372036854775808 ≤ n ∧ n ≤ 9223372036854775807) (hV1 : Aside0 (Kd.C (Kd.int .u8) w A1 l1.length l1)) (hc1 : Aside0 (l1.length ≤ c1)) (hb1 : ∀ x ∈ l1, 0 ≤ x ∧ x < 256) (hV2 : Aside0 (Kd.C (Kd.int .u8) w A2 l2.length l2)) (hc2 : Aside0 (l2.length ≤ c2)) (hb2 : ∀ x ∈ l2, 0 ≤ x ∧ x < 256) :
    Calls Try.prog 11 #[.int .i64 n, .slice A1 l1.length c1, .slice A2 l2.length c2] w fun e w' => e = .returned (.bool true) ∧ Below w.heap.size w w' := by
  by_cases k1 : 600 < l1.length
  · exact rf_a n A1 c1 l1 A2 c2 l2 w hV1.out hc1.out hV2.out hc2.out hb1 hb2 k1
  by_cases k2 : 600 < l2.length
  · exact rf_b n A1 c1 l1 A2 c2 l2 w hV1.out hc1.out hV2.out hc2.out hb1 hb2 (by omega) k2
  obtain ⟨u, p, g, hs⟩ : ∃ u p g, splitV l2 = (u, p, g) := ⟨_, _, _, rfl⟩
  by_cases h0 : n < 0
  · exact rf_n1 n A1 c1 l1 A2 c2 l2 w hV1.out hc1.out hV2.out hc2.out hb1 hb2 (by omega) (by omega) u g p [] hs h0 (frame_no n l1 (.inl h0))
  by_cases h1 : 247 < n
  · exact rf_n2 n A1 c1 l1 A2 c2 l2 w hV1.out hc1.out hV2.out hc2.out hb1 hb2 (by omega) (by omega) u g p [] hs h0 h1 (frame_no n l1 (.inr (.inl h1)))
  by_cases h2 : l1.length < 1
  · exact rf_n3 n A1 c1 l1 A2 c2 l2 w hV1.out hc1.out hV2.out hc2.out hb1 hb2 (by omega) (by omega) u g p [] hs h0 h1 h2 (frame_no n l1 (.inr (.inr (.inl h2))))
  by_cases h3 : 253 < l1.length
  · exact rf_n4 n A1 c1 l1 A2 c2 l2 w hV1.out hc1.out hV2.out hc2.out hb1 hb2 (by omega) (by omega) u g p [] hs h0 h1 h2 h3 (frame_no n l1 (.inr (.inr (.inr h3))))
  exact rf_yes n A1 c1 l1 A2 c2 l2 w hV1.out hc1.out hV2.out hc2.out hb1 hb2 (by omega) (by omega) u g p _ hs h0 h1 h2 h3 (frame_yes hb1 (by omega) (by omega) (by omega) (by omega)) (refframe 1000 hb1 (by omega) (by omega))
end Go.Proofs.Ytabjlanomebonaa.HandRFrames

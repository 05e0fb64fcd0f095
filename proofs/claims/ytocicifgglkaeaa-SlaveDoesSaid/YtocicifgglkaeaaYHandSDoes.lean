/- SlaveDoes, walked. (printed by gen_slv9.py) -/
import Derived.Test.YtocicifgglkaeaaZD6
import Derived.Deep.LoopGhost
namespace Go.Proofs.Ytocicifgglkaeaa.HandSDoes
open Go.RowKit Go.Proofs.YtocicifgglkaeaaW.PrintWords Go.Proofs.YtocicifgglkaeaaW.PrintLast Go.Proofs.YtocicifgglkaeaaW.PrintMore Go.Proofs.Ytocicifgglkaeaa.Core Go.Proofs.Ytocicifgglkaeaa.Wk Go.Proofs.Ytocicifgglkaeaa.Chk Go.Proofs.Ytocicifgglkaeaa.SlvA Go.Proofs.Ytocicifgglkaeaa.SlvB Go.Proofs.Ytocicifgglkaeaa.SlvE Go.Proofs.Ytocicifgglkaeaa.SlvW Go.Proofs.Ytocicifgglkaeaa.SlvF Go.Proofs.Ytocicifgglkaeaa.SlvG Go.Proofs.Ytocicifgglkaeaa.SlvH Go.Proofs.Ytocicifgglkaeaa.SlvM Go.Proofs.Ytocicifgglkaeaa.SlvI Go.Proofs.Ytocicifgglkaeaa.SlvJ Go.Proofs.Ytocicifgglkaeaa.SlvK Go.Proofs.Ytocicifgglkaeaa.SlvD Go.Proofs.Ytocicifgglkaeaa.SlvL Go.Proofs.Ytocicifgglkaeaa.SlvN Go.Proofs.Ytocicifgglkaeaa.SlvO
set_option linter.unusedVariables false
set_option linter.unusedSimpArgs false
attribute [local go_sem] max2_int min2_int max_two min_two
theorem relb {k n : Nat} (h : k < n) (hb : n ≤ 9223372036854775807) : Value.int .i64 (wrap64 ((k : Int) + 1)) = Value.int .i64 ((k + 1 : Nat) : Int) := by
  rw [wrap64_of (by omega) (by omega)]
  exact congrArg (Value.int .i64) (by omega)
theorem measb {c k : Nat} (h : k < c) (hb : c ≤ 9223372036854775807) : c - (intOf (.int .i64 (wrap64 ((k : Int) + 1)))).toNat < c - (intOf (.int .i64 (k : Int))).toNat := SlvI.meas h (wrap64_of (by omega) (by omega))
theorem may_n {f a c : Int} {A : Option Addr} {cc : Nat} {v : List Int} {t n o : Int} {nv : Nat} (hn : v.length = nv) {w : World} (hV : Kd.C (Kd.int .i64) w A v.length v) {b : Bool} (hb : Chk.chkB f a c v t n o = b) : Calls Try.prog 20 #[.agg #[.int .i64 f, .int .i64 a, .int .i64 c, .slice A nv cc, .int .i64 t, .int .i64 n, .int .i64 o]] w fun e w' => e = .returned (.bool b) ∧ Below w.heap.size w w' := by
  subst hn; subst hb; exact Chk.may_c f a c A cc v t n o w hV
set_option maxHeartbeats 4000000 in
set_option maxRecDepth 100000 in
theorem does_e1 (bi wo : Int) (As : Option Addr) (cs ml : Nat) (w : World) (h : 200 < bi) (h1 : bi ≤ 65536) : Calls Try.prog 4 #[.int .i64 bi, .int .i64 wo, .slice As ml cs] w fun e w' => e = .returned (.bool true) ∧ Below w.heap.size w w' := by
  have d0 : decide (200 < bi) = true := decide_eq_true (by omega)
  have d1 : decide (bi ≤ 65536) = true := decide_eq_true (by omega)
  clear h h1
  go_enter Try.func4, Try.ntmps4
  go_wp2
  go_ret
  exact ⟨rfl, Below.refl _ _⟩
set_option maxHeartbeats 4000000 in
set_option maxRecDepth 100000 in
theorem does_e2 (bi wo : Int) (As : Option Addr) (cs ml : Nat) (w : World) (h : bi ≤ 200) (h1 : 200 < wo) (h2 : wo ≤ 65536) : Calls Try.prog 4 #[.int .i64 bi, .int .i64 wo, .slice As ml cs] w fun e w' => e = .returned (.bool true) ∧ Below w.heap.size w w' := by
  have d0 : decide (200 < bi) = false := decide_eq_false (by omega)
  have d1 : decide (200 < wo) = true := decide_eq_true (by omega)
  have d2 : decide (wo ≤ 65536) = true := decide_eq_true (by omega)
  clear h h1 h2
  go_enter Try.func4, Try.ntmps4
  go_wp2
  go_ret
  exact ⟨rfl, Below.refl _ _⟩
set_option maxHeartbeats 4000000 in
set_option maxRecDepth 100000 in
theorem does_e3 (bi wo : Int) (As : Option Addr) (cs ml : Nat) (w : World) (h : 65536 < bi) (h1 : 200 < wo) (h2 : wo ≤ 65536) : Calls Try.prog 4 #[.int .i64 bi, .int .i64 wo, .slice As ml cs] w fun e w' => e = .returned (.bool true) ∧ Below w.heap.size w w' := by
  have d0 : decide (200 < bi) = true := decide_eq_true (by omega)
  have d1 : decide (bi ≤ 65536) = false := decide_eq_false (by omega)
  have d2 : decide (200 < wo) = true := decide_eq_true (by omega)
  have d3 : decide (wo ≤ 65536) = true := decide_eq_true (by omega)
  clear h h1 h2
  go_enter Try.func4, Try.ntmps4
  go_wp2
  go_ret
  exact ⟨rfl, Below.refl _ _⟩
set_option maxHeartbeats 4000000 in
set_option maxRecDepth 100000 in
theorem does_fss (bi wo : Int) (As : Option Addr) (cs ml : Nat) (w : World) (h1 : bi ≤ 200) (h2 : wo ≤ 200) (hf : Calls Try.prog 18 #[.slice As ml cs] w fun e w' => e = .returned (.bool false) ∧ w = w') : Calls Try.prog 4 #[.int .i64 bi, .int .i64 wo, .slice As ml cs] w fun e w' => e = .returned (.bool true) ∧ Below w.heap.size w w' := by
  have d0 : decide (200 < bi) = false := decide_eq_false (by omega)
  have d1 : decide (200 < wo) = false := decide_eq_false (by omega)
  have HFW := Aside0.mk hf; clear h1 h2 hf
  go_enter Try.func4, Try.ntmps4
  go_wp2_with (go_at_call 18; refine HFW.out.mono ?_; rintro e w' ⟨rfl, rfl⟩)
  go_ret
  exact ⟨rfl, Below.refl _ _⟩
set_option maxHeartbeats 4000000 in
set_option maxRecDepth 100000 in
theorem does_nss (bi wo : Int) (As : Option Addr) (cs ml : Nat) (w : World) (h1 : bi ≤ 200) (h2 : wo ≤ 200) (hn : ¬ (0 ≤ bi ∧ bi ≤ 65536 ∧ 0 ≤ wo ∧ wo ≤ 65536)) (hf : Calls Try.prog 18 #[.slice As ml cs] w fun e w' => e = .returned (.bool true) ∧ w = w') : Calls Try.prog 4 #[.int .i64 bi, .int .i64 wo, .slice As ml cs] w fun e w' => e = .returned (.bool true) ∧ Below w.heap.size w w' := by
  have d0 : decide (200 < bi) = false := decide_eq_false (by omega)
  have d1 : decide (200 < wo) = false := decide_eq_false (by omega)
  have HFW := Aside0.mk hf; have HN := Aside0.mk hn; clear h1 h2 hf hn
  have XB : Aside0 (Below w.heap.size w w) := ⟨Below.refl _ _⟩
  go_enter Try.func4, Try.ntmps4
  go_wp2_with (first | (go_at_call 18; refine HFW.out.mono ?_; rintro e w' ⟨rfl, rfl⟩) | (go_at_call 14; refine (new_no _ _ HN.out _).mono ?_; rintro e w1 ⟨rfl, HBc⟩; have XBn : Aside0 (Below w.heap.size w w1) := ⟨below_step XB.out HBc⟩; clear XB; have XB := XBn; clear XBn; clear HBc) | (go_at_call 19; refine (rnew_no _ _ HN.out _).mono ?_; rintro e w' ⟨rfl, rfl⟩; ) | (go_at_call 16; refine (awake_c _).mono ?_; rintro e w2 ⟨rfl, HBc⟩; have XBn : Aside0 (Below w.heap.size w w2) := ⟨below_step XB.out HBc⟩; clear XB; have XB := XBn; clear XBn; clear HBc))
  go_ret
  exact ⟨rfl, XB.out⟩
set_option maxHeartbeats 4000000 in
set_option maxRecDepth 100000 in
theorem does_fsb (bi wo : Int) (As : Option Addr) (cs ml : Nat) (w : World) (h1 : bi ≤ 200) (h2 : 65536 < wo) (hf : Calls Try.prog 18 #[.slice As ml cs] w fun e w' => e = .returned (.bool false) ∧ w = w') : Calls Try.prog 4 #[.int .i64 bi, .int .i64 wo, .slice As ml cs] w fun e w' => e = .returned (.bool true) ∧ Below w.heap.size w w' := by
  have d0 : decide (200 < bi) = false := decide_eq_false (by omega)
  have d1 : decide (200 < wo) = true := decide_eq_true (by omega)
  have d2 : decide (wo ≤ 65536) = false := decide_eq_false (by omega)
  have HFW := Aside0.mk hf; clear h1 h2 hf
  go_enter Try.func4, Try.ntmps4
  go_wp2_with (go_at_call 18; refine HFW.out.mono ?_; rintro e w' ⟨rfl, rfl⟩)
  go_ret
  exact ⟨rfl, Below.refl _ _⟩
set_option maxHeartbeats 4000000 in
set_option maxRecDepth 100000 in
theorem does_nsb (bi wo : Int) (As : Option Addr) (cs ml : Nat) (w : World) (h1 : bi ≤ 200) (h2 : 65536 < wo) (hn : ¬ (0 ≤ bi ∧ bi ≤ 65536 ∧ 0 ≤ wo ∧ wo ≤ 65536)) (hf : Calls Try.prog 18 #[.slice As ml cs] w fun e w' => e = .returned (.bool true) ∧ w = w') : Calls Try.prog 4 #[.int .i64 bi, .int .i64 wo, .slice As ml cs] w fun e w' => e = .returned (.bool true) ∧ Below w.heap.size w w' := by
  have d0 : decide (200 < bi) = false := decide_eq_false (by omega)
  have d1 : decide (200 < wo) = true := decide_eq_true (by omega)
  have d2 : decide (wo ≤ 65536) = false := decide_eq_false (by omega)
  have HFW := Aside0.mk hf; have HN := Aside0.mk hn; clear h1 h2 hf hn
  have XB : Aside0 (Below w.heap.size w w) := ⟨Below.refl _ _⟩
  go_enter Try.func4, Try.ntmps4
  go_wp2_with (first | (go_at_call 18; refine HFW.out.mono ?_; rintro e w' ⟨rfl, rfl⟩) | (go_at_call 14; refine (new_no _ _ HN.out _).mono ?_; rintro e w1 ⟨rfl, HBc⟩; have XBn : Aside0 (Below w.heap.size w w1) := ⟨below_step XB.out HBc⟩; clear XB; have XB := XBn; clear XBn; clear HBc) | (go_at_call 19; refine (rnew_no _ _ HN.out _).mono ?_; rintro e w' ⟨rfl, rfl⟩; ) | (go_at_call 16; refine (awake_c _).mono ?_; rintro e w2 ⟨rfl, HBc⟩; have XBn : Aside0 (Below w.heap.size w w2) := ⟨below_step XB.out HBc⟩; clear XB; have XB := XBn; clear XBn; clear HBc))
  go_ret
  exact ⟨rfl, XB.out⟩
set_option maxHeartbeats 4000000 in
set_option maxRecDepth 100000 in
theorem does_fbs (bi wo : Int) (As : Option Addr) (cs ml : Nat) (w : World) (h1 : 65536 < bi) (h2 : wo ≤ 200) (hf : Calls Try.prog 18 #[.slice As ml cs] w fun e w' => e = .returned (.bool false) ∧ w = w') : Calls Try.prog 4 #[.int .i64 bi, .int .i64 wo, .slice As ml cs] w fun e w' => e = .returned (.bool true) ∧ Below w.heap.size w w' := by
  have d0 : decide (200 < bi) = true := decide_eq_true (by omega)
  have d1 : decide (bi ≤ 65536) = false := decide_eq_false (by omega)
  have d2 : decide (200 < wo) = false := decide_eq_false (by omega)
  have HFW := Aside0.mk hf; clear h1 h2 hf
  go_enter Try.func4, Try.ntmps4
  go_wp2_with (go_at_call 18; refine HFW.out.mono ?_; rintro e w' ⟨rfl, rfl⟩)
  go_ret
  exact ⟨rfl, Below.refl _ _⟩
set_option maxHeartbeats 4000000 in
set_option maxRecDepth 100000 in
theorem does_nbs (bi wo : Int) (As : Option Addr) (cs ml : Nat) (w : World) (h1 : 65536 < bi) (h2 : wo ≤ 200) (hn : ¬ (0 ≤ bi ∧ bi ≤ 65536 ∧ 0 ≤ wo ∧ wo ≤ 65536)) (hf : Calls Try.prog 18 #[.slice As ml cs] w fun e w' => e = .returned (.bool true) ∧ w = w') : Calls Try.prog 4 #[.int .i64 bi, .int .i64 wo, .slice As ml cs] w fun e w' => e = .returned (.bool true) ∧ Below w.heap.size w w' := by
  have d0 : decide (200 < bi) = true := decide_eq_true (by omega)
  have d1 : decide (bi ≤ 65536) = false := decide_eq_false (by omega)
  have d2 : decide (200 < wo) = false := decide_eq_false (by omega)
  have HFW := Aside0.mk hf; have HN := Aside0.mk hn; clear h1 h2 hf hn
  have XB : Aside0 (Below w.heap.size w w) := ⟨Below.refl _ _⟩
  go_enter Try.func4, Try.ntmps4
  go_wp2_with (first | (go_at_call 18; refine HFW.out.mono ?_; rintro e w' ⟨rfl, rfl⟩) | (go_at_call 14; refine (new_no _ _ HN.out _).mono ?_; rintro e w1 ⟨rfl, HBc⟩; have XBn : Aside0 (Below w.heap.size w w1) := ⟨below_step XB.out HBc⟩; clear XB; have XB := XBn; clear XBn; clear HBc) | (go_at_call 19; refine (rnew_no _ _ HN.out _).mono ?_; rintro e w' ⟨rfl, rfl⟩; ) | (go_at_call 16; refine (awake_c _).mono ?_; rintro e w2 ⟨rfl, HBc⟩; have XBn : Aside0 (Below w.heap.size w w2) := ⟨below_step XB.out HBc⟩; clear XB; have XB := XBn; clear XBn; clear HBc))
  go_ret
  exact ⟨rfl, XB.out⟩
set_option maxHeartbeats 4000000 in
set_option maxRecDepth 100000 in
theorem does_fbb (bi wo : Int) (As : Option Addr) (cs ml : Nat) (w : World) (h1 : 65536 < bi) (h2 : 65536 < wo) (hf : Calls Try.prog 18 #[.slice As ml cs] w fun e w' => e = .returned (.bool false) ∧ w = w') : Calls Try.prog 4 #[.int .i64 bi, .int .i64 wo, .slice As ml cs] w fun e w' => e = .returned (.bool true) ∧ Below w.heap.size w w' := by
  have d0 : decide (200 < bi) = true := decide_eq_true (by omega)
  have d1 : decide (bi ≤ 65536) = false := decide_eq_false (by omega)
  have d2 : decide (200 < wo) = true := decide_eq_true (by omega)
  have d3 : decide (wo ≤ 65536) = false := decide_eq_false (by omega)
  have HFW := Aside0.mk hf; clear h1 h2 hf
  go_enter Try.func4, Try.ntmps4
  go_wp2_with (go_at_call 18; refine HFW.out.mono ?_; rintro e w' ⟨rfl, rfl⟩)
  go_ret
  exact ⟨rfl, Below.refl _ _⟩
set_option maxHeartbeats 4000000 in
set_option maxRecDepth 100000 in
theorem does_nbb (bi wo : Int) (As : Option Addr) (cs ml : Nat) (w : World) (h1 : 65536 < bi) (h2 : 65536 < wo) (hn : ¬ (0 ≤ bi ∧ bi ≤ 65536 ∧ 0 ≤ wo ∧ wo ≤ 65536)) (hf : Calls Try.prog 18 #[.slice As ml cs] w fun e w' => e = .returned (.bool true) ∧ w = w') : Calls Try.prog 4 #[.int .i64 bi, .int .i64 wo, .slice As ml cs] w fun e w' => e = .returned (.bool true) ∧ Below w.heap.size w w' := by
  have d0 : decide (200 < bi) = true := decide_eq_true (by omega)
  have d1 : decide (bi ≤ 65536) = false := decide_eq_false (by omega)
  have d2 : decide (200 < wo) = true := decide_eq_true (by omega)
  have d3 : decide (wo ≤ 65536) = false := decide_eq_false (by omega)
  have HFW := Aside0.mk hf; have HN := Aside0.mk hn; clear h1 h2 hf hn
  have XB : Aside0 (Below w.heap.size w w) := ⟨Below.refl _ _⟩
  go_enter Try.func4, Try.ntmps4
  go_wp2_with (first | (go_at_call 18; refine HFW.out.mono ?_; rintro e w' ⟨rfl, rfl⟩) | (go_at_call 14; refine (new_no _ _ HN.out _).mono ?_; rintro e w1 ⟨rfl, HBc⟩; have XBn : Aside0 (Below w.heap.size w w1) := ⟨below_step XB.out HBc⟩; clear XB; have XB := XBn; clear XBn; clear HBc) | (go_at_call 19; refine (rnew_no _ _ HN.out _).mono ?_; rintro e w' ⟨rfl, rfl⟩; ) | (go_at_call 16; refine (awake_c _).mono ?_; rintro e w2 ⟨rfl, HBc⟩; have XBn : Aside0 (Below w.heap.size w w2) := ⟨below_step XB.out HBc⟩; clear XB; have XB := XBn; clear XBn; clear HBc))
  go_ret
  exact ⟨rfl, XB.out⟩
set_option maxHeartbeats 40000000 in
set_option maxRecDepth 100000 in
theorem does_good (bi wo : Nat) (As : Option Addr) (cs : Nat) (xs : List Opc) (ml : Nat) (w : World) (hrw : RowE k42 (fun k => w.heap.size ≤ k) w As ml xs) (h1 : bi ≤ 200) (h2 : wo ≤ 200) (hf : Calls Try.prog 18 #[.slice As ml cs] w fun e w' => e = .returned (.bool true) ∧ w = w') : Calls Try.prog 4 #[.int .i64 (bi : Int), .int .i64 (wo : Int), .slice As ml cs] w fun e w' => e = .returned (.bool true) ∧ Below w.heap.size w w' := by
  have d0 : decide (200 < (bi : Int)) = false := decide_eq_false (by omega)
  have d1 : decide (200 < bi) = false := decide_eq_false (by omega)
  have d2 : decide (200 < (wo : Int)) = false := decide_eq_false (by omega)
  have d3 : decide (200 < wo) = false := decide_eq_false (by omega)
  have XB : Aside0 (Below w.heap.size w w) := ⟨Below.refl _ _⟩
  have HV_sc : Aside0 (RowE k42 (fun k => w.heap.size ≤ k) w (As) ml xs) := ⟨hrw⟩
  have HML : Aside0 (ml ≤ 9223372036854775807) := ⟨hrw.2.1⟩; have HFW := Aside0.mk hf; have HBI := Aside0.mk h1; have HWO := Aside0.mk h2; clear h1 h2 hf hrw
  go_enter Try.func4, Try.ntmps4
  go_wp2_with (first | (go_at_call 18; refine HFW.out.mono ?_; rintro e w' ⟨rfl, rfl⟩) | (go_at_call 14; refine (new_c bi wo (by have := HBI.out; omega) (by have := HWO.out; omega) _).mono ?_; rintro e w3 ⟨g, R, rfl, hslv, hge, hgr, HBc⟩; have GE_ : Aside0 (∀ k, Fp g R k → w.heap.size ≤ k) := ⟨fun k h => by rcases h with h | ⟨i, hi, h⟩; rw [h]; exact hge; rw [h]; exact hgr i hi⟩; have FG_s : Aside0 (∀ k, Fp g R k → w.heap.size ≤ k) := ⟨fun k h => Nat.le_trans (below_size XB.out) (GE_.out k h)⟩; have SB_sc_s : Aside0 (∀ k, Fp g R k → (fun k => w.heap.size ≤ k) k) := ⟨fun k h => FG_s.out k h⟩; clear GE_; have HV_scn : Aside0 (RowE k42 (fun k => w.heap.size ≤ k) w3 (As) ml xs) := ⟨HV_sc.out.step (.of_below HBc)⟩; have XBn : Aside0 (Below w.heap.size w w3) := ⟨below_step XB.out HBc⟩; clear HV_sc XB; have HV_sc := HV_scn; have XB := XBn; clear HV_scn XBn; have OB_s : Aside0 (IsSlv 77 w3 g R (fun k => zs (nz bi wo k))) := ⟨hslv⟩; clear hslv hge hgr HBc) | (go_at_call 19; refine (rnew_c bi wo (by have := HBI.out; omega) (by have := HWO.out; omega) _).mono ?_; rintro e w4 ⟨g2, R2, rfl, hslv, hge, hgr, HBc⟩; have GE_ : Aside0 (∀ k, Fp g2 R2 k → w3.heap.size ≤ k) := ⟨fun k h => by rcases h with h | ⟨i, hi, h⟩; rw [h]; exact hge; rw [h]; exact hgr i hi⟩; have FG_r : Aside0 (∀ k, Fp g2 R2 k → w.heap.size ≤ k) := ⟨fun k h => Nat.le_trans (below_size XB.out) (GE_.out k h)⟩; have AP_s_r : Aside0 (∀ k, Fp g R k → ¬ Fp g2 R2 k) := ⟨fun k h h2 => by have := GE_.out k h2; have := OB_s.out.lt k h; omega⟩; have AP_r_s : Aside0 (∀ k, Fp g2 R2 k → ¬ Fp g R k) := ⟨fun k h h2 => AP_s_r.out k h2 h⟩; have SB_sc_r : Aside0 (∀ k, Fp g2 R2 k → (fun k => w.heap.size ≤ k) k) := ⟨fun k h => FG_r.out k h⟩; clear GE_; have OB_sn : Aside0 (IsSlv 77 w4 g R (fun k => zs (nz bi wo k))) := ⟨OB_s.out.below HBc⟩; have HV_scn : Aside0 (RowE k42 (fun k => w.heap.size ≤ k) w4 (As) ml xs) := ⟨HV_sc.out.step (.of_below HBc)⟩; have XBn : Aside0 (Below w.heap.size w w4) := ⟨below_step XB.out HBc⟩; clear OB_s HV_sc XB; have OB_s := OB_sn; have HV_sc := HV_scn; have XB := XBn; clear OB_sn HV_scn XBn; have OB_r : Aside0 (IsSlv 51 w4 g2 R2 (fun k => zs (nz bi wo k))) := ⟨hslv⟩; clear hslv hge hgr HBc))
  go_loopw [11] (fun v wr => ∃ (j : Nat) (X : Nat → List Int), j ≤ ml ∧ v = .int .i64 j ∧ Aside0 (Rng X) ∧ Aside0 (IsSlv 77 wr g R (X)) ∧ Aside0 (IsSlv 51 wr g2 R2 (X)) ∧ Aside0 (RowE k42 (fun k => w.heap.size ≤ k) wr (As) ml xs) ∧ Aside0 (Below w.heap.size w wr)) (fun v _ => ml - (intOf v).toNat)
  case atStart => exact ⟨0, _, by omega, rfl, ⟨zs_rng bi wo⟩, OB_s, OB_r, HV_sc, XB⟩
  case round =>
    clear OB_s OB_r HV_sc XB
    obtain ⟨j, X, hj, rfl, HX, OB_s, OB_r, HV_sc, XB⟩ := hrel
    by_cases hlt : j < ml
    · have t1 : decide (j < ml) = true := decide_eq_true hlt
      have t2 : decide ((j : Int) < (ml : Int)) = true := decide_eq_true (by omega)
      have HJ : Aside0 (j < ml) := ⟨hlt⟩
      have hj0 : (0 : Int) ≤ (j : Int) := (by omega); have hj1 : (j : Int) < (ml : Int) := (by omega); have hj2 : (j < ml) = True := eq_true hlt
      obtain ⟨ad, A0, cc0, e_, hle, hev, hcells⟩ := row_elem HV_sc.out hlt
      cases e_
      generalize hxx : xs.getD j z42 = x at hle hev hcells
      clear hxx hlt hj hle
      obtain ⟨call, kind, addr, val, f, a, c, v, t, n, o⟩ := x
      obtain ⟨m0, e0⟩ : ∃ m, v.length = m := ⟨_, rfl⟩
      have hc0 : wr.cell? (ad.add (j * 11 + 0)) = some (.int .i64 call) := hcells 0 _ rfl
      have hd0 : wr.cell? (ad.add (j * 11)) = some (.int .i64 call) := hc0
      have hc1 : wr.cell? (ad.add (j * 11 + 1)) = some (.int .i64 kind) := hcells 1 _ rfl
      have hd1 := hc1; rw [add_field _ _ 1 (by omega)] at hd1
      have hc2 : wr.cell? (ad.add (j * 11 + 2)) = some (.int .i64 addr) := hcells 2 _ rfl
      have hd2 := hc2; rw [add_field _ _ 2 (by omega)] at hd2
      have hc3 : wr.cell? (ad.add (j * 11 + 3)) = some (.int .i64 val) := hcells 3 _ rfl
      have hd3 := hc3; rw [add_field _ _ 3 (by omega)] at hd3
      have hc4 : wr.cell? (ad.add (j * 11 + 4)) = some (.int .i64 f) := hcells 4 _ rfl
      have hd4 := hc4; rw [add_field _ _ 4 (by omega)] at hd4
      have hc5 : wr.cell? (ad.add (j * 11 + 5)) = some (.int .i64 a) := hcells 5 _ rfl
      have hd5 := hc5; rw [add_field _ _ 5 (by omega)] at hd5
      have hc6 : wr.cell? (ad.add (j * 11 + 6)) = some (.int .i64 c) := hcells 6 _ rfl
      have hd6 := hc6; rw [add_field _ _ 6 (by omega)] at hd6
      have hc7 : wr.cell? (ad.add (j * 11 + 7)) = some (.slice A0 m0 cc0) := by rw [← e0]; exact hcells 7 _ rfl
      have hd7 := hc7; rw [add_field _ _ 7 (by omega)] at hd7
      have hc8 : wr.cell? (ad.add (j * 11 + 8)) = some (.int .i64 t) := hcells 8 _ rfl
      have hd8 := hc8; rw [add_field _ _ 8 (by omega)] at hd8
      have hc9 : wr.cell? (ad.add (j * 11 + 9)) = some (.int .i64 n) := hcells 9 _ rfl
      have hd9 := hc9; rw [add_field _ _ 9 (by omega)] at hd9
      have hc10 : wr.cell? (ad.add (j * 11 + 10)) = some (.int .i64 o) := hcells 10 _ rfl
      have hd10 := hc10; rw [add_field _ _ 10 (by omega)] at hd10
      clear hcells
      have HV_q : Aside0 (Ever (fun k => w.heap.size ≤ k) wr (fun W => Kd.C (Kd.int .i64) W (A0) (v).length (v))) := ⟨hev⟩; have E0 := Aside0.mk e0; clear hev e0
      have SB_q_s : Aside0 (∀ k, Fp g R k → (fun k => w.heap.size ≤ k) k) := ⟨FG_s.out⟩
      have SB_q_r : Aside0 (∀ k, Fp g2 R2 k → (fun k => w.heap.size ≤ k) k) := ⟨FG_r.out⟩
      by_cases hc : call = 0
      · have b0 : (call == 0) = true := beq_iff_eq.mpr hc
        clear hc
        by_cases k0 : Chk.chkB f a c v t n o = true
        rotate_left
        · have CK : Aside0 (Chk.chkB f a c v t n o = false) := ⟨by simpa using k0⟩; clear k0; have tA := Aside0.mk trivial
          go_wp2_with (first | ((with_reducible refine gate_dst (N := 12) rfl ?_); refine box_event ?hg (N := 12) ?hd (cs := #[.int .i64 0, .int .i64 0, .int .i64 0, .int .i64 0, .int .i64 0, .int .i64 0, .int .i64 0, .slice none 0 0, .int .i64 0, .int .i64 0, .int .i64 0]) (t := 42) ?hr ?_; (case hd => rfl); (case hg => rfl); (case hr => first | (go_simp; done) | (go_simp; rfl)); intro bo hg wa hbox HBc; have RG_bo : Aside0 (w.heap.size ≤ bo) := ⟨Nat.le_trans (below_size XB.out) (Nat.le_of_eq hg.symm)⟩; have NS_s_bo : Aside0 (∀ k, Fp g R k → k ≠ bo) := ⟨fun k hk e => by have := OB_s.out.lt k hk; omega⟩; have NS_r_bo : Aside0 (∀ k, Fp g2 R2 k → k ≠ bo) := ⟨fun k hk e => by have := OB_r.out.lt k hk; omega⟩; have SB_sc_bo : Aside0 (∀ k, k = bo → (fun k => w.heap.size ≤ k) k) := ⟨fun k e => by have := RG_bo.out; show _ ≤ k; omega⟩; have SB_q_bo : Aside0 (∀ k, k = bo → (fun k => w.heap.size ≤ k) k) := ⟨fun k e => by have := RG_bo.out; show _ ≤ k; omega⟩; clear hg; have OB_sn : Aside0 (IsSlv 77 wa g R (X)) := ⟨OB_s.out.below HBc⟩; have OB_rn : Aside0 (IsSlv 51 wa g2 R2 (X)) := ⟨OB_r.out.below HBc⟩; have HV_scn : Aside0 (RowE k42 (fun k => w.heap.size ≤ k) wa (some ad) ml xs) := ⟨HV_sc.out.step (.of_below HBc)⟩; have HV_qn : Aside0 (Ever (fun k => w.heap.size ≤ k) wa (fun W => Kd.C (Kd.int .i64) W (A0) (v).length (v))) := ⟨HV_q.out.step (.of_below HBc)⟩; have XBn : Aside0 (Below w.heap.size w wa) := ⟨below_step XB.out HBc⟩; clear OB_s OB_r HV_sc HV_q XB; have OB_s := OB_sn; have OB_r := OB_rn; have HV_sc := HV_scn; have HV_q := HV_qn; have XB := XBn; clear OB_sn OB_rn HV_scn HV_qn XBn; have BK_bo : Aside0 (wa.heap[bo]? = some (.cells #[.int .i64 0, .int .i64 0, .int .i64 0, .int .i64 0, .int .i64 0, .int .i64 0, .int .i64 0, .slice none 0 0, .int .i64 0, .int .i64 0, .int .i64 0] 42 (0, 0))) := ⟨hbox⟩; clear hbox HBc; have lc1_0 : wa.cell? ⟨bo, 0, none⟩ = some (.int .i64 0) := (blk_cell BK_bo.out 0).trans rfl; have lf1_0 := blk_frozen BK_bo.out 0; have lc1_1 : wa.cell? ⟨bo, 1, none⟩ = some (.int .i64 0) := (blk_cell BK_bo.out 1).trans rfl; have lf1_1 := blk_frozen BK_bo.out 1; have lc1_2 : wa.cell? ⟨bo, 2, none⟩ = some (.int .i64 0) := (blk_cell BK_bo.out 2).trans rfl; have lf1_2 := blk_frozen BK_bo.out 2; have lc1_3 : wa.cell? ⟨bo, 3, none⟩ = some (.int .i64 0) := (blk_cell BK_bo.out 3).trans rfl; have lf1_3 := blk_frozen BK_bo.out 3; have lc1_4 : wa.cell? ⟨bo, 4, none⟩ = some (.int .i64 0) := (blk_cell BK_bo.out 4).trans rfl; have lf1_4 := blk_frozen BK_bo.out 4; have lc1_5 : wa.cell? ⟨bo, 5, none⟩ = some (.int .i64 0) := (blk_cell BK_bo.out 5).trans rfl; have lf1_5 := blk_frozen BK_bo.out 5; have lc1_6 : wa.cell? ⟨bo, 6, none⟩ = some (.int .i64 0) := (blk_cell BK_bo.out 6).trans rfl; have lf1_6 := blk_frozen BK_bo.out 6; have lc1_7 : wa.cell? ⟨bo, 7, none⟩ = some (.slice none 0 0) := (blk_cell BK_bo.out 7).trans rfl; have lf1_7 := blk_frozen BK_bo.out 7; have lc1_8 : wa.cell? ⟨bo, 8, none⟩ = some (.int .i64 0) := (blk_cell BK_bo.out 8).trans rfl; have lf1_8 := blk_frozen BK_bo.out 8; have lc1_9 : wa.cell? ⟨bo, 9, none⟩ = some (.int .i64 0) := (blk_cell BK_bo.out 9).trans rfl; have lf1_9 := blk_frozen BK_bo.out 9; have lc1_10 : wa.cell? ⟨bo, 10, none⟩ = some (.int .i64 0) := (blk_cell BK_bo.out 10).trans rfl; have lf1_10 := blk_frozen BK_bo.out 10) | ((with_reducible refine gate_store (p := 12) rfl ?_); refine store_event (w1 := ?_) rfl (p := 12) rfl rfl ?hr ?_; rotate_left; (case hr => go_simp; rfl); intro wb hw_; obtain ⟨hput, HEc⟩ := put11 hw_ BK_bo.out; clear hw_; clear lc1_0 lf1_0 lc1_1 lf1_1 lc1_2 lf1_2 lc1_3 lf1_3 lc1_4 lf1_4 lc1_5 lf1_5 lc1_6 lf1_6 lc1_7 lf1_7 lc1_8 lf1_8 lc1_9 lf1_9 lc1_10 lf1_10; have OB_sn : Aside0 (IsSlv 77 wb g R (X)) := ⟨OB_s.out.ext HEc (fun k h1 h2 => NS_s_bo.out k h1 h2)⟩; have OB_rn : Aside0 (IsSlv 51 wb g2 R2 (X)) := ⟨OB_r.out.ext HEc (fun k h1 h2 => NS_r_bo.out k h1 h2)⟩; have HV_scn : Aside0 (RowE k42 (fun k => w.heap.size ≤ k) wb (some ad) ml xs) := ⟨HV_sc.out.step (HEc.sub SB_sc_bo.out)⟩; have HV_qn : Aside0 (Ever (fun k => w.heap.size ≤ k) wb (fun W => Kd.C (Kd.int .i64) W (A0) (v).length (v))) := ⟨HV_q.out.step (HEc.sub SB_q_bo.out)⟩; have XBn : Aside0 (Below w.heap.size w wb) := ⟨((Ext.of_below (M := fun j => w.heap.size ≤ j) XB.out).grow HEc (fun k e => .inl (by rw [show k = bo from e]; exact RG_bo.out))).below (fun _ h => h)⟩; clear OB_s OB_r HV_sc HV_q XB; have OB_s := OB_sn; have OB_r := OB_rn; have HV_sc := HV_scn; have HV_q := HV_qn; have XB := XBn; clear OB_sn OB_rn HV_scn HV_qn XBn; clear BK_bo; have BK_bo : Aside0 (wb.heap[bo]? = some (.cells #[.int .i64 call, .int .i64 kind, .int .i64 addr, .int .i64 val, .int .i64 f, .int .i64 a, .int .i64 c, .slice A0 m0 cc0, .int .i64 t, .int .i64 n, .int .i64 o] 42 (0, 0))) := ⟨hput⟩; clear hput HEc; have lc2_0 : wb.cell? ⟨bo, 0, none⟩ = some (.int .i64 call) := (blk_cell BK_bo.out 0).trans rfl; have lf2_0 := blk_frozen BK_bo.out 0; have lc2_1 : wb.cell? ⟨bo, 1, none⟩ = some (.int .i64 kind) := (blk_cell BK_bo.out 1).trans rfl; have lf2_1 := blk_frozen BK_bo.out 1; have lc2_2 : wb.cell? ⟨bo, 2, none⟩ = some (.int .i64 addr) := (blk_cell BK_bo.out 2).trans rfl; have lf2_2 := blk_frozen BK_bo.out 2; have lc2_3 : wb.cell? ⟨bo, 3, none⟩ = some (.int .i64 val) := (blk_cell BK_bo.out 3).trans rfl; have lf2_3 := blk_frozen BK_bo.out 3; have lc2_4 : wb.cell? ⟨bo, 4, none⟩ = some (.int .i64 f) := (blk_cell BK_bo.out 4).trans rfl; have lf2_4 := blk_frozen BK_bo.out 4; have lc2_5 : wb.cell? ⟨bo, 5, none⟩ = some (.int .i64 a) := (blk_cell BK_bo.out 5).trans rfl; have lf2_5 := blk_frozen BK_bo.out 5; have lc2_6 : wb.cell? ⟨bo, 6, none⟩ = some (.int .i64 c) := (blk_cell BK_bo.out 6).trans rfl; have lf2_6 := blk_frozen BK_bo.out 6; have lc2_7 : wb.cell? ⟨bo, 7, none⟩ = some (.slice A0 m0 cc0) := (blk_cell BK_bo.out 7).trans rfl; have lf2_7 := blk_frozen BK_bo.out 7; have lc2_8 : wb.cell? ⟨bo, 8, none⟩ = some (.int .i64 t) := (blk_cell BK_bo.out 8).trans rfl; have lf2_8 := blk_frozen BK_bo.out 8; have lc2_9 : wb.cell? ⟨bo, 9, none⟩ = some (.int .i64 n) := (blk_cell BK_bo.out 9).trans rfl; have lf2_9 := blk_frozen BK_bo.out 9; have lc2_10 : wb.cell? ⟨bo, 10, none⟩ = some (.int .i64 o) := (blk_cell BK_bo.out 10).trans rfl; have lf2_10 := blk_frozen BK_bo.out 10) | (go_at_call 15; refine (do_bad E0.out (HV_q.out.now) CK.out).mono ?_; rintro e wc ⟨rfl, HBc⟩; clear lc2_0 lf2_0 lc2_1 lf2_1 lc2_2 lf2_2 lc2_3 lf2_3 lc2_4 lf2_4 lc2_5 lf2_5 lc2_6 lf2_6 lc2_7 lf2_7 lc2_8 lf2_8 lc2_9 lf2_9 lc2_10 lf2_10; have BK_bon : Aside0 (wc.heap[bo]? = some (.cells #[.int .i64 call, .int .i64 kind, .int .i64 addr, .int .i64 val, .int .i64 f, .int .i64 a, .int .i64 c, .slice A0 m0 cc0, .int .i64 t, .int .i64 n, .int .i64 o] 42 (0, 0))) := ⟨blk_below BK_bo.out HBc⟩; have OB_sn : Aside0 (IsSlv 77 wc g R (X)) := ⟨OB_s.out.below HBc⟩; have OB_rn : Aside0 (IsSlv 51 wc g2 R2 (X)) := ⟨OB_r.out.below HBc⟩; have HV_scn : Aside0 (RowE k42 (fun k => w.heap.size ≤ k) wc (some ad) ml xs) := ⟨HV_sc.out.step (.of_below HBc)⟩; have HV_qn : Aside0 (Ever (fun k => w.heap.size ≤ k) wc (fun W => Kd.C (Kd.int .i64) W (A0) (v).length (v))) := ⟨HV_q.out.step (.of_below HBc)⟩; have XBn : Aside0 (Below w.heap.size w wc) := ⟨below_step XB.out HBc⟩; clear BK_bo OB_s OB_r HV_sc HV_q XB; have BK_bo := BK_bon; have OB_s := OB_sn; have OB_r := OB_rn; have HV_sc := HV_scn; have HV_q := HV_qn; have XB := XBn; clear BK_bon OB_sn OB_rn HV_scn HV_qn XBn; clear HBc) | ((with_reducible refine gate_dst (N := 13) rfl ?_); refine box_event ?hg (N := 13) ?hd (cs := #[.slice none 0 0, .int .i64 0]) (t := 30) ?hr ?_; (case hd => rfl); (case hg => rfl); (case hr => first | (go_simp; done) | (go_simp; rfl)); intro ba hg wd hbox HBc; have RG_ba : Aside0 (w.heap.size ≤ ba) := ⟨Nat.le_trans (below_size XB.out) (Nat.le_of_eq hg.symm)⟩; have NE_bo_ba : Aside0 (bo ≠ ba) := ⟨ne_born (blk_lt BK_bo.out) hg⟩; have NE_ba_bo : Aside0 (ba ≠ bo) := ⟨fun e => NE_bo_ba.out e.symm⟩; have NS_s_ba : Aside0 (∀ k, Fp g R k → k ≠ ba) := ⟨fun k hk e => by have := OB_s.out.lt k hk; omega⟩; have NS_r_ba : Aside0 (∀ k, Fp g2 R2 k → k ≠ ba) := ⟨fun k hk e => by have := OB_r.out.lt k hk; omega⟩; have SB_sc_ba : Aside0 (∀ k, k = ba → (fun k => w.heap.size ≤ k) k) := ⟨fun k e => by have := RG_ba.out; show _ ≤ k; omega⟩; have SB_q_ba : Aside0 (∀ k, k = ba → (fun k => w.heap.size ≤ k) k) := ⟨fun k e => by have := RG_ba.out; show _ ≤ k; omega⟩; clear hg; have BK_bon : Aside0 (wd.heap[bo]? = some (.cells #[.int .i64 call, .int .i64 kind, .int .i64 addr, .int .i64 val, .int .i64 f, .int .i64 a, .int .i64 c, .slice A0 m0 cc0, .int .i64 t, .int .i64 n, .int .i64 o] 42 (0, 0))) := ⟨blk_below BK_bo.out HBc⟩; have OB_sn : Aside0 (IsSlv 77 wd g R (X)) := ⟨OB_s.out.below HBc⟩; have OB_rn : Aside0 (IsSlv 51 wd g2 R2 (X)) := ⟨OB_r.out.below HBc⟩; have HV_scn : Aside0 (RowE k42 (fun k => w.heap.size ≤ k) wd (some ad) ml xs) := ⟨HV_sc.out.step (.of_below HBc)⟩; have HV_qn : Aside0 (Ever (fun k => w.heap.size ≤ k) wd (fun W => Kd.C (Kd.int .i64) W (A0) (v).length (v))) := ⟨HV_q.out.step (.of_below HBc)⟩; have XBn : Aside0 (Below w.heap.size w wd) := ⟨below_step XB.out HBc⟩; clear BK_bo OB_s OB_r HV_sc HV_q XB; have BK_bo := BK_bon; have OB_s := OB_sn; have OB_r := OB_rn; have HV_sc := HV_scn; have HV_q := HV_qn; have XB := XBn; clear BK_bon OB_sn OB_rn HV_scn HV_qn XBn; have BK_ba : Aside0 (wd.heap[ba]? = some (.cells #[.slice none 0 0, .int .i64 0] 30 (0, 0))) := ⟨hbox⟩; clear hbox HBc; have lc3_0 : wd.cell? ⟨ba, 0, none⟩ = some (.slice none 0 0) := (blk_cell BK_ba.out 0).trans rfl; have lf3_0 := blk_frozen BK_ba.out 0; have lc3_1 : wd.cell? ⟨ba, 1, none⟩ = some (.int .i64 0) := (blk_cell BK_ba.out 1).trans rfl; have lf3_1 := blk_frozen BK_ba.out 1; have lc4_0 : wd.cell? ⟨bo, 0, none⟩ = some (.int .i64 call) := (blk_cell BK_bo.out 0).trans rfl; have lf4_0 := blk_frozen BK_bo.out 0; have lc4_1 : wd.cell? ⟨bo, 1, none⟩ = some (.int .i64 kind) := (blk_cell BK_bo.out 1).trans rfl; have lf4_1 := blk_frozen BK_bo.out 1; have lc4_2 : wd.cell? ⟨bo, 2, none⟩ = some (.int .i64 addr) := (blk_cell BK_bo.out 2).trans rfl; have lf4_2 := blk_frozen BK_bo.out 2; have lc4_3 : wd.cell? ⟨bo, 3, none⟩ = some (.int .i64 val) := (blk_cell BK_bo.out 3).trans rfl; have lf4_3 := blk_frozen BK_bo.out 3; have lc4_4 : wd.cell? ⟨bo, 4, none⟩ = some (.int .i64 f) := (blk_cell BK_bo.out 4).trans rfl; have lf4_4 := blk_frozen BK_bo.out 4; have lc4_5 : wd.cell? ⟨bo, 5, none⟩ = some (.int .i64 a) := (blk_cell BK_bo.out 5).trans rfl; have lf4_5 := blk_frozen BK_bo.out 5; have lc4_6 : wd.cell? ⟨bo, 6, none⟩ = some (.int .i64 c) := (blk_cell BK_bo.out 6).trans rfl; have lf4_6 := blk_frozen BK_bo.out 6; have lc4_7 : wd.cell? ⟨bo, 7, none⟩ = some (.slice A0 m0 cc0) := (blk_cell BK_bo.out 7).trans rfl; have lf4_7 := blk_frozen BK_bo.out 7; have lc4_8 : wd.cell? ⟨bo, 8, none⟩ = some (.int .i64 t) := (blk_cell BK_bo.out 8).trans rfl; have lf4_8 := blk_frozen BK_bo.out 8; have lc4_9 : wd.cell? ⟨bo, 9, none⟩ = some (.int .i64 n) := (blk_cell BK_bo.out 9).trans rfl; have lf4_9 := blk_frozen BK_bo.out 9; have lc4_10 : wd.cell? ⟨bo, 10, none⟩ = some (.int .i64 o) := (blk_cell BK_bo.out 10).trans rfl; have lf4_10 := blk_frozen BK_bo.out 10) | ((with_reducible refine gate_store (p := 13) rfl ?_); refine store_event (w1 := ?_) rfl (p := 13) rfl rfl ?hr ?_; rotate_left; (case hr => go_simp; rfl); intro we hw_; obtain ⟨hput, HEc⟩ := put2 hw_ BK_ba.out; clear hw_; clear lc3_0 lf3_0 lc3_1 lf3_1 lc4_0 lf4_0 lc4_1 lf4_1 lc4_2 lf4_2 lc4_3 lf4_3 lc4_4 lf4_4 lc4_5 lf4_5 lc4_6 lf4_6 lc4_7 lf4_7 lc4_8 lf4_8 lc4_9 lf4_9 lc4_10 lf4_10; have BK_bon : Aside0 (we.heap[bo]? = some (.cells #[.int .i64 call, .int .i64 kind, .int .i64 addr, .int .i64 val, .int .i64 f, .int .i64 a, .int .i64 c, .slice A0 m0 cc0, .int .i64 t, .int .i64 n, .int .i64 o] 42 (0, 0))) := ⟨Ext.blk HEc BK_bo.out NE_bo_ba.out⟩; have OB_sn : Aside0 (IsSlv 77 we g R (X)) := ⟨OB_s.out.ext HEc (fun k h1 h2 => NS_s_ba.out k h1 h2)⟩; have OB_rn : Aside0 (IsSlv 51 we g2 R2 (X)) := ⟨OB_r.out.ext HEc (fun k h1 h2 => NS_r_ba.out k h1 h2)⟩; have HV_scn : Aside0 (RowE k42 (fun k => w.heap.size ≤ k) we (some ad) ml xs) := ⟨HV_sc.out.step (HEc.sub SB_sc_ba.out)⟩; have HV_qn : Aside0 (Ever (fun k => w.heap.size ≤ k) we (fun W => Kd.C (Kd.int .i64) W (A0) (v).length (v))) := ⟨HV_q.out.step (HEc.sub SB_q_ba.out)⟩; have XBn : Aside0 (Below w.heap.size w we) := ⟨((Ext.of_below (M := fun j => w.heap.size ≤ j) XB.out).grow HEc (fun k e => .inl (by rw [show k = ba from e]; exact RG_ba.out))).below (fun _ h => h)⟩; clear BK_bo OB_s OB_r HV_sc HV_q XB; have BK_bo := BK_bon; have OB_s := OB_sn; have OB_r := OB_rn; have HV_sc := HV_scn; have HV_q := HV_qn; have XB := XBn; clear BK_bon OB_sn OB_rn HV_scn HV_qn XBn; clear BK_ba; have BK_ba : Aside0 (we.heap[ba]? = some (.cells #[.slice none 0 0, .int .i64 0] 30 (0, 0))) := ⟨hput⟩; clear hput HEc; have lc5_0 : we.cell? ⟨ba, 0, none⟩ = some (.slice none 0 0) := (blk_cell BK_ba.out 0).trans rfl; have lf5_0 := blk_frozen BK_ba.out 0; have lc5_1 : we.cell? ⟨ba, 1, none⟩ = some (.int .i64 0) := (blk_cell BK_ba.out 1).trans rfl; have lf5_1 := blk_frozen BK_ba.out 1; have lc6_0 : we.cell? ⟨bo, 0, none⟩ = some (.int .i64 call) := (blk_cell BK_bo.out 0).trans rfl; have lf6_0 := blk_frozen BK_bo.out 0; have lc6_1 : we.cell? ⟨bo, 1, none⟩ = some (.int .i64 kind) := (blk_cell BK_bo.out 1).trans rfl; have lf6_1 := blk_frozen BK_bo.out 1; have lc6_2 : we.cell? ⟨bo, 2, none⟩ = some (.int .i64 addr) := (blk_cell BK_bo.out 2).trans rfl; have lf6_2 := blk_frozen BK_bo.out 2; have lc6_3 : we.cell? ⟨bo, 3, none⟩ = some (.int .i64 val) := (blk_cell BK_bo.out 3).trans rfl; have lf6_3 := blk_frozen BK_bo.out 3; have lc6_4 : we.cell? ⟨bo, 4, none⟩ = some (.int .i64 f) := (blk_cell BK_bo.out 4).trans rfl; have lf6_4 := blk_frozen BK_bo.out 4; have lc6_5 : we.cell? ⟨bo, 5, none⟩ = some (.int .i64 a) := (blk_cell BK_bo.out 5).trans rfl; have lf6_5 := blk_frozen BK_bo.out 5; have lc6_6 : we.cell? ⟨bo, 6, none⟩ = some (.int .i64 c) := (blk_cell BK_bo.out 6).trans rfl; have lf6_6 := blk_frozen BK_bo.out 6; have lc6_7 : we.cell? ⟨bo, 7, none⟩ = some (.slice A0 m0 cc0) := (blk_cell BK_bo.out 7).trans rfl; have lf6_7 := blk_frozen BK_bo.out 7; have lc6_8 : we.cell? ⟨bo, 8, none⟩ = some (.int .i64 t) := (blk_cell BK_bo.out 8).trans rfl; have lf6_8 := blk_frozen BK_bo.out 8; have lc6_9 : we.cell? ⟨bo, 9, none⟩ = some (.int .i64 n) := (blk_cell BK_bo.out 9).trans rfl; have lf6_9 := blk_frozen BK_bo.out 9; have lc6_10 : we.cell? ⟨bo, 10, none⟩ = some (.int .i64 o) := (blk_cell BK_bo.out 10).trans rfl; have lf6_10 := blk_frozen BK_bo.out 10) | (go_at_call 20; refine (may_n E0.out HV_q.out.now CK.out).mono ?_; rintro e wf ⟨rfl, HBc⟩; clear lc5_0 lf5_0 lc5_1 lf5_1 lc6_0 lf6_0 lc6_1 lf6_1 lc6_2 lf6_2 lc6_3 lf6_3 lc6_4 lf6_4 lc6_5 lf6_5 lc6_6 lf6_6 lc6_7 lf6_7 lc6_8 lf6_8 lc6_9 lf6_9 lc6_10 lf6_10; have BK_bon : Aside0 (wf.heap[bo]? = some (.cells #[.int .i64 call, .int .i64 kind, .int .i64 addr, .int .i64 val, .int .i64 f, .int .i64 a, .int .i64 c, .slice A0 m0 cc0, .int .i64 t, .int .i64 n, .int .i64 o] 42 (0, 0))) := ⟨blk_below BK_bo.out HBc⟩; have BK_ban : Aside0 (wf.heap[ba]? = some (.cells #[.slice none 0 0, .int .i64 0] 30 (0, 0))) := ⟨blk_below BK_ba.out HBc⟩; have OB_sn : Aside0 (IsSlv 77 wf g R (X)) := ⟨OB_s.out.below HBc⟩; have OB_rn : Aside0 (IsSlv 51 wf g2 R2 (X)) := ⟨OB_r.out.below HBc⟩; have HV_scn : Aside0 (RowE k42 (fun k => w.heap.size ≤ k) wf (some ad) ml xs) := ⟨HV_sc.out.step (.of_below HBc)⟩; have HV_qn : Aside0 (Ever (fun k => w.heap.size ≤ k) wf (fun W => Kd.C (Kd.int .i64) W (A0) (v).length (v))) := ⟨HV_q.out.step (.of_below HBc)⟩; have XBn : Aside0 (Below w.heap.size w wf) := ⟨below_step XB.out HBc⟩; clear BK_bo BK_ba OB_s OB_r HV_sc HV_q XB; have BK_bo := BK_bon; have BK_ba := BK_ban; have OB_s := OB_sn; have OB_r := OB_rn; have HV_sc := HV_scn; have HV_q := HV_qn; have XB := XBn; clear BK_bon BK_ban OB_sn OB_rn HV_scn HV_qn XBn; clear HBc; have lc7_0 : wf.cell? ⟨ba, 0, none⟩ = some (.slice none 0 0) := (blk_cell BK_ba.out 0).trans rfl; have lf7_0 := blk_frozen BK_ba.out 0; have lc7_1 : wf.cell? ⟨ba, 1, none⟩ = some (.int .i64 0) := (blk_cell BK_ba.out 1).trans rfl; have lf7_1 := blk_frozen BK_ba.out 1) | (go_at_call 17; refine (asame_c _ _ _ _ ([]) ([]) (0) (0) _ rfl rfl (Kd.C_nil _ _) (Kd.C_nil _ _) (r := true) (by decide)).mono ?_; rintro e wg ⟨rfl, HBc⟩; clear lc7_0 lf7_0 lc7_1 lf7_1; have BK_bon : Aside0 (wg.heap[bo]? = some (.cells #[.int .i64 call, .int .i64 kind, .int .i64 addr, .int .i64 val, .int .i64 f, .int .i64 a, .int .i64 c, .slice A0 m0 cc0, .int .i64 t, .int .i64 n, .int .i64 o] 42 (0, 0))) := ⟨blk_below BK_bo.out HBc⟩; have BK_ban : Aside0 (wg.heap[ba]? = some (.cells #[.slice none 0 0, .int .i64 0] 30 (0, 0))) := ⟨blk_below BK_ba.out HBc⟩; have OB_sn : Aside0 (IsSlv 77 wg g R (X)) := ⟨OB_s.out.below HBc⟩; have OB_rn : Aside0 (IsSlv 51 wg g2 R2 (X)) := ⟨OB_r.out.below HBc⟩; have HV_scn : Aside0 (RowE k42 (fun k => w.heap.size ≤ k) wg (some ad) ml xs) := ⟨HV_sc.out.step (.of_below HBc)⟩; have HV_qn : Aside0 (Ever (fun k => w.heap.size ≤ k) wg (fun W => Kd.C (Kd.int .i64) W (A0) (v).length (v))) := ⟨HV_q.out.step (.of_below HBc)⟩; have XBn : Aside0 (Below w.heap.size w wg) := ⟨below_step XB.out HBc⟩; clear BK_bo BK_ba OB_s OB_r HV_sc HV_q XB; have BK_bo := BK_bon; have BK_ba := BK_ban; have OB_s := OB_sn; have OB_r := OB_rn; have HV_sc := HV_scn; have HV_q := HV_qn; have XB := XBn; clear BK_bon BK_ban OB_sn OB_rn HV_scn HV_qn XBn; clear HBc))
          go_roundw
          case rel => exact ⟨j + 1, X, by have := HJ.out; omega, relb HJ.out HML.out, HX, OB_s, OB_r, HV_sc, XB⟩
          case measure => exact measb HJ.out HML.out
        · have CK := Aside0.mk k0; clear k0; obtain ⟨⟨X2, ys, co⟩, g1⟩ : ∃ r, doP X f a c v t n o = r := ⟨_, rfl⟩; have G1 := Aside0.mk g1; have HXN : Aside0 (Rng X2) := ⟨doP_rng HX.out CK.out g1⟩; clear g1; have tA := Aside0.mk trivial
          go_upto_region 22 with (first | ((with_reducible refine gate_dst (N := 12) rfl ?_); refine box_event ?hg (N := 12) ?hd (cs := #[.int .i64 0, .int .i64 0, .int .i64 0, .int .i64 0, .int .i64 0, .int .i64 0, .int .i64 0, .slice none 0 0, .int .i64 0, .int .i64 0, .int .i64 0]) (t := 42) ?hr ?_; (case hd => rfl); (case hg => rfl); (case hr => first | (go_simp; done) | (go_simp; rfl)); intro bo hg wa hbox HBc; have RG_bo : Aside0 (w.heap.size ≤ bo) := ⟨Nat.le_trans (below_size XB.out) (Nat.le_of_eq hg.symm)⟩; have NS_s_bo : Aside0 (∀ k, Fp g R k → k ≠ bo) := ⟨fun k hk e => by have := OB_s.out.lt k hk; omega⟩; have NS_r_bo : Aside0 (∀ k, Fp g2 R2 k → k ≠ bo) := ⟨fun k hk e => by have := OB_r.out.lt k hk; omega⟩; have SB_sc_bo : Aside0 (∀ k, k = bo → (fun k => w.heap.size ≤ k) k) := ⟨fun k e => by have := RG_bo.out; show _ ≤ k; omega⟩; have SB_q_bo : Aside0 (∀ k, k = bo → (fun k => w.heap.size ≤ k) k) := ⟨fun k e => by have := RG_bo.out; show _ ≤ k; omega⟩; clear hg; have OB_sn : Aside0 (IsSlv 77 wa g R (X)) := ⟨OB_s.out.below HBc⟩; have OB_rn : Aside0 (IsSlv 51 wa g2 R2 (X)) := ⟨OB_r.out.below HBc⟩; have HV_scn : Aside0 (RowE k42 (fun k => w.heap.size ≤ k) wa (some ad) ml xs) := ⟨HV_sc.out.step (.of_below HBc)⟩; have HV_qn : Aside0 (Ever (fun k => w.heap.size ≤ k) wa (fun W => Kd.C (Kd.int .i64) W (A0) (v).length (v))) := ⟨HV_q.out.step (.of_below HBc)⟩; have XBn : Aside0 (Below w.heap.size w wa) := ⟨below_step XB.out HBc⟩; clear OB_s OB_r HV_sc HV_q XB; have OB_s := OB_sn; have OB_r := OB_rn; have HV_sc := HV_scn; have HV_q := HV_qn; have XB := XBn; clear OB_sn OB_rn HV_scn HV_qn XBn; have BK_bo : Aside0 (wa.heap[bo]? = some (.cells #[.int .i64 0, .int .i64 0, .int .i64 0, .int .i64 0, .int .i64 0, .int .i64 0, .int .i64 0, .slice none 0 0, .int .i64 0, .int .i64 0, .int .i64 0] 42 (0, 0))) := ⟨hbox⟩; clear hbox HBc; have lc1_0 : wa.cell? ⟨bo, 0, none⟩ = some (.int .i64 0) := (blk_cell BK_bo.out 0).trans rfl; have lf1_0 := blk_frozen BK_bo.out 0; have lc1_1 : wa.cell? ⟨bo, 1, none⟩ = some (.int .i64 0) := (blk_cell BK_bo.out 1).trans rfl; have lf1_1 := blk_frozen BK_bo.out 1; have lc1_2 : wa.cell? ⟨bo, 2, none⟩ = some (.int .i64 0) := (blk_cell BK_bo.out 2).trans rfl; have lf1_2 := blk_frozen BK_bo.out 2; have lc1_3 : wa.cell? ⟨bo, 3, none⟩ = some (.int .i64 0) := (blk_cell BK_bo.out 3).trans rfl; have lf1_3 := blk_frozen BK_bo.out 3; have lc1_4 : wa.cell? ⟨bo, 4, none⟩ = some (.int .i64 0) := (blk_cell BK_bo.out 4).trans rfl; have lf1_4 := blk_frozen BK_bo.out 4; have lc1_5 : wa.cell? ⟨bo, 5, none⟩ = some (.int .i64 0) := (blk_cell BK_bo.out 5).trans rfl; have lf1_5 := blk_frozen BK_bo.out 5; have lc1_6 : wa.cell? ⟨bo, 6, none⟩ = some (.int .i64 0) := (blk_cell BK_bo.out 6).trans rfl; have lf1_6 := blk_frozen BK_bo.out 6; have lc1_7 : wa.cell? ⟨bo, 7, none⟩ = some (.slice none 0 0) := (blk_cell BK_bo.out 7).trans rfl; have lf1_7 := blk_frozen BK_bo.out 7; have lc1_8 : wa.cell? ⟨bo, 8, none⟩ = some (.int .i64 0) := (blk_cell BK_bo.out 8).trans rfl; have lf1_8 := blk_frozen BK_bo.out 8; have lc1_9 : wa.cell? ⟨bo, 9, none⟩ = some (.int .i64 0) := (blk_cell BK_bo.out 9).trans rfl; have lf1_9 := blk_frozen BK_bo.out 9; have lc1_10 : wa.cell? ⟨bo, 10, none⟩ = some (.int .i64 0) := (blk_cell BK_bo.out 10).trans rfl; have lf1_10 := blk_frozen BK_bo.out 10) | ((with_reducible refine gate_store (p := 12) rfl ?_); refine store_event (w1 := ?_) rfl (p := 12) rfl rfl ?hr ?_; rotate_left; (case hr => go_simp; rfl); intro wb hw_; obtain ⟨hput, HEc⟩ := put11 hw_ BK_bo.out; clear hw_; clear lc1_0 lf1_0 lc1_1 lf1_1 lc1_2 lf1_2 lc1_3 lf1_3 lc1_4 lf1_4 lc1_5 lf1_5 lc1_6 lf1_6 lc1_7 lf1_7 lc1_8 lf1_8 lc1_9 lf1_9 lc1_10 lf1_10; have OB_sn : Aside0 (IsSlv 77 wb g R (X)) := ⟨OB_s.out.ext HEc (fun k h1 h2 => NS_s_bo.out k h1 h2)⟩; have OB_rn : Aside0 (IsSlv 51 wb g2 R2 (X)) := ⟨OB_r.out.ext HEc (fun k h1 h2 => NS_r_bo.out k h1 h2)⟩; have HV_scn : Aside0 (RowE k42 (fun k => w.heap.size ≤ k) wb (some ad) ml xs) := ⟨HV_sc.out.step (HEc.sub SB_sc_bo.out)⟩; have HV_qn : Aside0 (Ever (fun k => w.heap.size ≤ k) wb (fun W => Kd.C (Kd.int .i64) W (A0) (v).length (v))) := ⟨HV_q.out.step (HEc.sub SB_q_bo.out)⟩; have XBn : Aside0 (Below w.heap.size w wb) := ⟨((Ext.of_below (M := fun j => w.heap.size ≤ j) XB.out).grow HEc (fun k e => .inl (by rw [show k = bo from e]; exact RG_bo.out))).below (fun _ h => h)⟩; clear OB_s OB_r HV_sc HV_q XB; have OB_s := OB_sn; have OB_r := OB_rn; have HV_sc := HV_scn; have HV_q := HV_qn; have XB := XBn; clear OB_sn OB_rn HV_scn HV_qn XBn; clear BK_bo; have BK_bo : Aside0 (wb.heap[bo]? = some (.cells #[.int .i64 call, .int .i64 kind, .int .i64 addr, .int .i64 val, .int .i64 f, .int .i64 a, .int .i64 c, .slice A0 m0 cc0, .int .i64 t, .int .i64 n, .int .i64 o] 42 (0, 0))) := ⟨hput⟩; clear hput HEc; have lc2_0 : wb.cell? ⟨bo, 0, none⟩ = some (.int .i64 call) := (blk_cell BK_bo.out 0).trans rfl; have lf2_0 := blk_frozen BK_bo.out 0; have lc2_1 : wb.cell? ⟨bo, 1, none⟩ = some (.int .i64 kind) := (blk_cell BK_bo.out 1).trans rfl; have lf2_1 := blk_frozen BK_bo.out 1; have lc2_2 : wb.cell? ⟨bo, 2, none⟩ = some (.int .i64 addr) := (blk_cell BK_bo.out 2).trans rfl; have lf2_2 := blk_frozen BK_bo.out 2; have lc2_3 : wb.cell? ⟨bo, 3, none⟩ = some (.int .i64 val) := (blk_cell BK_bo.out 3).trans rfl; have lf2_3 := blk_frozen BK_bo.out 3; have lc2_4 : wb.cell? ⟨bo, 4, none⟩ = some (.int .i64 f) := (blk_cell BK_bo.out 4).trans rfl; have lf2_4 := blk_frozen BK_bo.out 4; have lc2_5 : wb.cell? ⟨bo, 5, none⟩ = some (.int .i64 a) := (blk_cell BK_bo.out 5).trans rfl; have lf2_5 := blk_frozen BK_bo.out 5; have lc2_6 : wb.cell? ⟨bo, 6, none⟩ = some (.int .i64 c) := (blk_cell BK_bo.out 6).trans rfl; have lf2_6 := blk_frozen BK_bo.out 6; have lc2_7 : wb.cell? ⟨bo, 7, none⟩ = some (.slice A0 m0 cc0) := (blk_cell BK_bo.out 7).trans rfl; have lf2_7 := blk_frozen BK_bo.out 7; have lc2_8 : wb.cell? ⟨bo, 8, none⟩ = some (.int .i64 t) := (blk_cell BK_bo.out 8).trans rfl; have lf2_8 := blk_frozen BK_bo.out 8; have lc2_9 : wb.cell? ⟨bo, 9, none⟩ = some (.int .i64 n) := (blk_cell BK_bo.out 9).trans rfl; have lf2_9 := blk_frozen BK_bo.out 9; have lc2_10 : wb.cell? ⟨bo, 10, none⟩ = some (.int .i64 o) := (blk_cell BK_bo.out 10).trans rfl; have lf2_10 := blk_frozen BK_bo.out 10) | (go_at_call 15; refine (do_c OB_s.out E0.out (HV_q.out.grow (Ext.refl _ _) (fun k h => .inl (SB_q_s.out k h))) CK.out G1.out).mono ?_; rintro e wc ⟨Aa, ca, rfl, hca, hsl, HEc, hans⟩; have SB_a_s : Aside0 (∀ k, Fp g R k → (fun k => k < wb.heap.size ∨ wc.heap.size ≤ k) k) := ⟨fun k h => .inl (OB_s.out.lt k h)⟩; have SB_a_r : Aside0 (∀ k, Fp g2 R2 k → (fun k => k < wb.heap.size ∨ wc.heap.size ≤ k) k) := ⟨fun k h => .inl (OB_r.out.lt k h)⟩; have SB_a_bo : Aside0 (∀ k, k = bo → (fun k => k < wb.heap.size ∨ wc.heap.size ≤ k) k) := ⟨fun k e => .inl (by rw [e]; exact blk_lt BK_bo.out)⟩; clear lc2_0 lf2_0 lc2_1 lf2_1 lc2_2 lf2_2 lc2_3 lf2_3 lc2_4 lf2_4 lc2_5 lf2_5 lc2_6 lf2_6 lc2_7 lf2_7 lc2_8 lf2_8 lc2_9 lf2_9 lc2_10 lf2_10; have BK_bon : Aside0 (wc.heap[bo]? = some (.cells #[.int .i64 call, .int .i64 kind, .int .i64 addr, .int .i64 val, .int .i64 f, .int .i64 a, .int .i64 c, .slice A0 m0 cc0, .int .i64 t, .int .i64 n, .int .i64 o] 42 (0, 0))) := ⟨Ext.blk HEc BK_bo.out (fun e => NS_s_bo.out _ e rfl)⟩; have OB_sn : Aside0 (IsSlv 77 wc g R (X2)) := ⟨hsl⟩; have OB_rn : Aside0 (IsSlv 51 wc g2 R2 (X)) := ⟨OB_r.out.ext HEc (fun k h1 h2 => AP_r_s.out k h1 h2)⟩; have HV_scn : Aside0 (RowE k42 (fun k => w.heap.size ≤ k) wc (some ad) ml xs) := ⟨HV_sc.out.step (HEc.sub SB_sc_s.out)⟩; have HV_qn : Aside0 (Ever (fun k => w.heap.size ≤ k) wc (fun W => Kd.C (Kd.int .i64) W (A0) (v).length (v))) := ⟨HV_q.out.step (HEc.sub SB_q_s.out)⟩; have XBn : Aside0 (Below w.heap.size w wc) := ⟨((Ext.of_below (M := fun j => w.heap.size ≤ j) XB.out).grow HEc (fun k e => .inl (FG_s.out k e))).below (fun _ h => h)⟩; clear BK_bo OB_s OB_r HV_sc HV_q XB; have BK_bo := BK_bon; have OB_s := OB_sn; have OB_r := OB_rn; have HV_sc := HV_scn; have HV_q := HV_qn; have XB := XBn; clear BK_bon OB_sn OB_rn HV_scn HV_qn XBn; have HV_a : Aside0 (Ever (fun k => k < wb.heap.size ∨ wc.heap.size ≤ k) wc (fun W => Kd.C (Kd.int .i64) W (Aa) ((ys : List Int)).length ((ys : List Int)))) := ⟨(hans (fun k => k < wb.heap.size) (fun k h => h)).grow (Ext.refl _ _) (fun k h => h)⟩; have HS_a : Aside0 (wc.heap.size ≤ wc.heap.size) := ⟨Nat.le_refl _⟩; clear hsl HEc hans hca) | ((with_reducible refine gate_dst (N := 13) rfl ?_); refine box_event ?hg (N := 13) ?hd (cs := #[.slice none 0 0, .int .i64 0]) (t := 30) ?hr ?_; (case hd => rfl); (case hg => rfl); (case hr => first | (go_simp; done) | (go_simp; rfl)); intro ba hg wd hbox HBc; have RG_ba : Aside0 (w.heap.size ≤ ba) := ⟨Nat.le_trans (below_size XB.out) (Nat.le_of_eq hg.symm)⟩; have NE_bo_ba : Aside0 (bo ≠ ba) := ⟨ne_born (blk_lt BK_bo.out) hg⟩; have NE_ba_bo : Aside0 (ba ≠ bo) := ⟨fun e => NE_bo_ba.out e.symm⟩; have NS_s_ba : Aside0 (∀ k, Fp g R k → k ≠ ba) := ⟨fun k hk e => by have := OB_s.out.lt k hk; omega⟩; have NS_r_ba : Aside0 (∀ k, Fp g2 R2 k → k ≠ ba) := ⟨fun k hk e => by have := OB_r.out.lt k hk; omega⟩; have SB_sc_ba : Aside0 (∀ k, k = ba → (fun k => w.heap.size ≤ k) k) := ⟨fun k e => by have := RG_ba.out; show _ ≤ k; omega⟩; have SB_q_ba : Aside0 (∀ k, k = ba → (fun k => w.heap.size ≤ k) k) := ⟨fun k e => by have := RG_ba.out; show _ ≤ k; omega⟩; have SB_a_ba : Aside0 (∀ k, k = ba → (fun k => k < wb.heap.size ∨ wc.heap.size ≤ k) k) := ⟨fun k e => .inr (by have := HS_a.out; omega)⟩; clear hg; have BK_bon : Aside0 (wd.heap[bo]? = some (.cells #[.int .i64 call, .int .i64 kind, .int .i64 addr, .int .i64 val, .int .i64 f, .int .i64 a, .int .i64 c, .slice A0 m0 cc0, .int .i64 t, .int .i64 n, .int .i64 o] 42 (0, 0))) := ⟨blk_below BK_bo.out HBc⟩; have OB_sn : Aside0 (IsSlv 77 wd g R (X2)) := ⟨OB_s.out.below HBc⟩; have OB_rn : Aside0 (IsSlv 51 wd g2 R2 (X)) := ⟨OB_r.out.below HBc⟩; have HV_scn : Aside0 (RowE k42 (fun k => w.heap.size ≤ k) wd (some ad) ml xs) := ⟨HV_sc.out.step (.of_below HBc)⟩; have HV_qn : Aside0 (Ever (fun k => w.heap.size ≤ k) wd (fun W => Kd.C (Kd.int .i64) W (A0) (v).length (v))) := ⟨HV_q.out.step (.of_below HBc)⟩; have HV_an : Aside0 (Ever (fun k => k < wb.heap.size ∨ wc.heap.size ≤ k) wd (fun W => Kd.C (Kd.int .i64) W (Aa) ((ys : List Int)).length ((ys : List Int)))) := ⟨HV_a.out.step (.of_below HBc)⟩; have HS_an : Aside0 (wc.heap.size ≤ wd.heap.size) := ⟨Nat.le_trans HS_a.out HBc.size⟩; have XBn : Aside0 (Below w.heap.size w wd) := ⟨below_step XB.out HBc⟩; clear BK_bo OB_s OB_r HV_sc HV_q HV_a HS_a XB; have BK_bo := BK_bon; have OB_s := OB_sn; have OB_r := OB_rn; have HV_sc := HV_scn; have HV_q := HV_qn; have HV_a := HV_an; have HS_a := HS_an; have XB := XBn; clear BK_bon OB_sn OB_rn HV_scn HV_qn HV_an HS_an XBn; have BK_ba : Aside0 (wd.heap[ba]? = some (.cells #[.slice none 0 0, .int .i64 0] 30 (0, 0))) := ⟨hbox⟩; clear hbox HBc; have lc3_0 : wd.cell? ⟨ba, 0, none⟩ = some (.slice none 0 0) := (blk_cell BK_ba.out 0).trans rfl; have lf3_0 := blk_frozen BK_ba.out 0; have lc3_1 : wd.cell? ⟨ba, 1, none⟩ = some (.int .i64 0) := (blk_cell BK_ba.out 1).trans rfl; have lf3_1 := blk_frozen BK_ba.out 1; have lc4_0 : wd.cell? ⟨bo, 0, none⟩ = some (.int .i64 call) := (blk_cell BK_bo.out 0).trans rfl; have lf4_0 := blk_frozen BK_bo.out 0; have lc4_1 : wd.cell? ⟨bo, 1, none⟩ = some (.int .i64 kind) := (blk_cell BK_bo.out 1).trans rfl; have lf4_1 := blk_frozen BK_bo.out 1; have lc4_2 : wd.cell? ⟨bo, 2, none⟩ = some (.int .i64 addr) := (blk_cell BK_bo.out 2).trans rfl; have lf4_2 := blk_frozen BK_bo.out 2; have lc4_3 : wd.cell? ⟨bo, 3, none⟩ = some (.int .i64 val) := (blk_cell BK_bo.out 3).trans rfl; have lf4_3 := blk_frozen BK_bo.out 3; have lc4_4 : wd.cell? ⟨bo, 4, none⟩ = some (.int .i64 f) := (blk_cell BK_bo.out 4).trans rfl; have lf4_4 := blk_frozen BK_bo.out 4; have lc4_5 : wd.cell? ⟨bo, 5, none⟩ = some (.int .i64 a) := (blk_cell BK_bo.out 5).trans rfl; have lf4_5 := blk_frozen BK_bo.out 5; have lc4_6 : wd.cell? ⟨bo, 6, none⟩ = some (.int .i64 c) := (blk_cell BK_bo.out 6).trans rfl; have lf4_6 := blk_frozen BK_bo.out 6; have lc4_7 : wd.cell? ⟨bo, 7, none⟩ = some (.slice A0 m0 cc0) := (blk_cell BK_bo.out 7).trans rfl; have lf4_7 := blk_frozen BK_bo.out 7; have lc4_8 : wd.cell? ⟨bo, 8, none⟩ = some (.int .i64 t) := (blk_cell BK_bo.out 8).trans rfl; have lf4_8 := blk_frozen BK_bo.out 8; have lc4_9 : wd.cell? ⟨bo, 9, none⟩ = some (.int .i64 n) := (blk_cell BK_bo.out 9).trans rfl; have lf4_9 := blk_frozen BK_bo.out 9; have lc4_10 : wd.cell? ⟨bo, 10, none⟩ = some (.int .i64 o) := (blk_cell BK_bo.out 10).trans rfl; have lf4_10 := blk_frozen BK_bo.out 10) | ((with_reducible refine gate_store (p := 13) rfl ?_); refine store_event (w1 := ?_) rfl (p := 13) rfl rfl ?hr ?_; rotate_left; (case hr => go_simp; rfl); intro we hw_; obtain ⟨hput, HEc⟩ := put2 hw_ BK_ba.out; clear hw_; clear lc3_0 lf3_0 lc3_1 lf3_1 lc4_0 lf4_0 lc4_1 lf4_1 lc4_2 lf4_2 lc4_3 lf4_3 lc4_4 lf4_4 lc4_5 lf4_5 lc4_6 lf4_6 lc4_7 lf4_7 lc4_8 lf4_8 lc4_9 lf4_9 lc4_10 lf4_10; have BK_bon : Aside0 (we.heap[bo]? = some (.cells #[.int .i64 call, .int .i64 kind, .int .i64 addr, .int .i64 val, .int .i64 f, .int .i64 a, .int .i64 c, .slice A0 m0 cc0, .int .i64 t, .int .i64 n, .int .i64 o] 42 (0, 0))) := ⟨Ext.blk HEc BK_bo.out NE_bo_ba.out⟩; have OB_sn : Aside0 (IsSlv 77 we g R (X2)) := ⟨OB_s.out.ext HEc (fun k h1 h2 => NS_s_ba.out k h1 h2)⟩; have OB_rn : Aside0 (IsSlv 51 we g2 R2 (X)) := ⟨OB_r.out.ext HEc (fun k h1 h2 => NS_r_ba.out k h1 h2)⟩; have HV_scn : Aside0 (RowE k42 (fun k => w.heap.size ≤ k) we (some ad) ml xs) := ⟨HV_sc.out.step (HEc.sub SB_sc_ba.out)⟩; have HV_qn : Aside0 (Ever (fun k => w.heap.size ≤ k) we (fun W => Kd.C (Kd.int .i64) W (A0) (v).length (v))) := ⟨HV_q.out.step (HEc.sub SB_q_ba.out)⟩; have HV_an : Aside0 (Ever (fun k => k < wb.heap.size ∨ wc.heap.size ≤ k) we (fun W => Kd.C (Kd.int .i64) W (Aa) ((ys : List Int)).length ((ys : List Int)))) := ⟨HV_a.out.step (HEc.sub SB_a_ba.out)⟩; have HS_an : Aside0 (wc.heap.size ≤ we.heap.size) := ⟨Nat.le_trans HS_a.out HEc.size⟩; have XBn : Aside0 (Below w.heap.size w we) := ⟨((Ext.of_below (M := fun j => w.heap.size ≤ j) XB.out).grow HEc (fun k e => .inl (by rw [show k = ba from e]; exact RG_ba.out))).below (fun _ h => h)⟩; clear BK_bo OB_s OB_r HV_sc HV_q HV_a HS_a XB; have BK_bo := BK_bon; have OB_s := OB_sn; have OB_r := OB_rn; have HV_sc := HV_scn; have HV_q := HV_qn; have HV_a := HV_an; have HS_a := HS_an; have XB := XBn; clear BK_bon OB_sn OB_rn HV_scn HV_qn HV_an HS_an XBn; clear BK_ba; have BK_ba : Aside0 (we.heap[ba]? = some (.cells #[.slice Aa ys.length ca, .int .i64 co] 30 (0, 0))) := ⟨hput⟩; clear hput HEc; have lc5_0 : we.cell? ⟨ba, 0, none⟩ = some (.slice Aa ys.length ca) := (blk_cell BK_ba.out 0).trans rfl; have lf5_0 := blk_frozen BK_ba.out 0; have lc5_1 : we.cell? ⟨ba, 1, none⟩ = some (.int .i64 co) := (blk_cell BK_ba.out 1).trans rfl; have lf5_1 := blk_frozen BK_ba.out 1; have lc6_0 : we.cell? ⟨bo, 0, none⟩ = some (.int .i64 call) := (blk_cell BK_bo.out 0).trans rfl; have lf6_0 := blk_frozen BK_bo.out 0; have lc6_1 : we.cell? ⟨bo, 1, none⟩ = some (.int .i64 kind) := (blk_cell BK_bo.out 1).trans rfl; have lf6_1 := blk_frozen BK_bo.out 1; have lc6_2 : we.cell? ⟨bo, 2, none⟩ = some (.int .i64 addr) := (blk_cell BK_bo.out 2).trans rfl; have lf6_2 := blk_frozen BK_bo.out 2; have lc6_3 : we.cell? ⟨bo, 3, none⟩ = some (.int .i64 val) := (blk_cell BK_bo.out 3).trans rfl; have lf6_3 := blk_frozen BK_bo.out 3; have lc6_4 : we.cell? ⟨bo, 4, none⟩ = some (.int .i64 f) := (blk_cell BK_bo.out 4).trans rfl; have lf6_4 := blk_frozen BK_bo.out 4; have lc6_5 : we.cell? ⟨bo, 5, none⟩ = some (.int .i64 a) := (blk_cell BK_bo.out 5).trans rfl; have lf6_5 := blk_frozen BK_bo.out 5; have lc6_6 : we.cell? ⟨bo, 6, none⟩ = some (.int .i64 c) := (blk_cell BK_bo.out 6).trans rfl; have lf6_6 := blk_frozen BK_bo.out 6; have lc6_7 : we.cell? ⟨bo, 7, none⟩ = some (.slice A0 m0 cc0) := (blk_cell BK_bo.out 7).trans rfl; have lf6_7 := blk_frozen BK_bo.out 7; have lc6_8 : we.cell? ⟨bo, 8, none⟩ = some (.int .i64 t) := (blk_cell BK_bo.out 8).trans rfl; have lf6_8 := blk_frozen BK_bo.out 8; have lc6_9 : we.cell? ⟨bo, 9, none⟩ = some (.int .i64 n) := (blk_cell BK_bo.out 9).trans rfl; have lf6_9 := blk_frozen BK_bo.out 9; have lc6_10 : we.cell? ⟨bo, 10, none⟩ = some (.int .i64 o) := (blk_cell BK_bo.out 10).trans rfl; have lf6_10 := blk_frozen BK_bo.out 10) | (go_at_call 20; refine (may_n E0.out HV_q.out.now CK.out).mono ?_; rintro e wf ⟨rfl, HBc⟩; clear lc5_0 lf5_0 lc5_1 lf5_1 lc6_0 lf6_0 lc6_1 lf6_1 lc6_2 lf6_2 lc6_3 lf6_3 lc6_4 lf6_4 lc6_5 lf6_5 lc6_6 lf6_6 lc6_7 lf6_7 lc6_8 lf6_8 lc6_9 lf6_9 lc6_10 lf6_10; have BK_bon : Aside0 (wf.heap[bo]? = some (.cells #[.int .i64 call, .int .i64 kind, .int .i64 addr, .int .i64 val, .int .i64 f, .int .i64 a, .int .i64 c, .slice A0 m0 cc0, .int .i64 t, .int .i64 n, .int .i64 o] 42 (0, 0))) := ⟨blk_below BK_bo.out HBc⟩; have BK_ban : Aside0 (wf.heap[ba]? = some (.cells #[.slice Aa ys.length ca, .int .i64 co] 30 (0, 0))) := ⟨blk_below BK_ba.out HBc⟩; have OB_sn : Aside0 (IsSlv 77 wf g R (X2)) := ⟨OB_s.out.below HBc⟩; have OB_rn : Aside0 (IsSlv 51 wf g2 R2 (X)) := ⟨OB_r.out.below HBc⟩; have HV_scn : Aside0 (RowE k42 (fun k => w.heap.size ≤ k) wf (some ad) ml xs) := ⟨HV_sc.out.step (.of_below HBc)⟩; have HV_qn : Aside0 (Ever (fun k => w.heap.size ≤ k) wf (fun W => Kd.C (Kd.int .i64) W (A0) (v).length (v))) := ⟨HV_q.out.step (.of_below HBc)⟩; have HV_an : Aside0 (Ever (fun k => k < wb.heap.size ∨ wc.heap.size ≤ k) wf (fun W => Kd.C (Kd.int .i64) W (Aa) ((ys : List Int)).length ((ys : List Int)))) := ⟨HV_a.out.step (.of_below HBc)⟩; have HS_an : Aside0 (wc.heap.size ≤ wf.heap.size) := ⟨Nat.le_trans HS_a.out HBc.size⟩; have XBn : Aside0 (Below w.heap.size w wf) := ⟨below_step XB.out HBc⟩; clear BK_bo BK_ba OB_s OB_r HV_sc HV_q HV_a HS_a XB; have BK_bo := BK_bon; have BK_ba := BK_ban; have OB_s := OB_sn; have OB_r := OB_rn; have HV_sc := HV_scn; have HV_q := HV_qn; have HV_a := HV_an; have HS_a := HS_an; have XB := XBn; clear BK_bon BK_ban OB_sn OB_rn HV_scn HV_qn HV_an HS_an XBn; clear HBc))
          have HD : Aside0 (Below wf.heap.size wf wf.drew) := ⟨below_drew1 (Below.refl _ _)⟩
          refine start_ (n := 11) (S := fun W => W.cell? ⟨ba, 0, none⟩ = some (.slice Aa ys.length ca) ∧ W.cell? ⟨ba, 1, none⟩ = some (.int .i64 co) ∧ W.cell? ⟨bo, 4, none⟩ = some (.int .i64 f) ∧ W.cell? ⟨bo, 5, none⟩ = some (.int .i64 a) ∧ W.cell? ⟨bo, 6, none⟩ = some (.int .i64 c) ∧ W.cell? ⟨bo, 7, none⟩ = some (.slice A0 m0 cc0) ∧ W.cell? ⟨bo, 8, none⟩ = some (.int .i64 t) ∧ W.cell? ⟨bo, 9, none⟩ = some (.int .i64 n) ∧ W.cell? ⟨bo, 10, none⟩ = some (.int .i64 o)) (ds := []) #[false, false, false, false, false, false, false, false, false, false, false] (by kernel_rfl) rfl rfl ?_ (fun hHeld => ?_)
          · exact ⟨(blk_cell BK_ba.out 0).trans rfl, (blk_cell BK_ba.out 1).trans rfl, (blk_cell BK_bo.out 4).trans rfl, (blk_cell BK_bo.out 5).trans rfl, (blk_cell BK_bo.out 6).trans rfl, (blk_cell BK_bo.out 7).trans rfl, (blk_cell BK_bo.out 8).trans rfl, (blk_cell BK_bo.out 9).trans rfl, (blk_cell BK_bo.out 10).trans rfl⟩
          refine pure_ (i := 0) (N := some 148) (v := ?_) (a' := ?_) #[true, false, false, false, false, false, false, false, false, false, false] rfl rfl (by kernel_rfl) (fun _ _ _ h => h) (Or.inl ⟨by rfl, ?_⟩) ?_ ?_
          rotate_left
          · intro w'
            go_simp
            with_reducible rfl
          rotate_left
          · simp only [Act.put, List.setIfInBounds_toArray, List.set_cons_zero, List.set_cons_succ, i64_w, i32_w]
            rfl
          refine pure_ (i := 1) (N := some 149) (v := ?_) (a' := ?_) #[true, true, false, false, false, false, false, false, false, false, false] rfl rfl (by kernel_rfl) (fun _ _ _ h => h) (Or.inl ⟨by rfl, ?_⟩) ?_ ?_
          rotate_left
          · intro w'
            go_simp
            with_reducible rfl
          rotate_left
          · simp only [Act.put, List.setIfInBounds_toArray, List.set_cons_zero, List.set_cons_succ, i64_w, i32_w]
            rfl
          refine pure_ (i := 2) (N := some 150) (v := ?_) (a' := ?_) #[true, true, true, false, false, false, false, false, false, false, false] rfl rfl (by kernel_rfl) (fun _ _ _ h => h) (Or.inl ⟨by rfl, ?_⟩) ?_ ?_
          rotate_left
          · intro w'
            go_simp
            with_reducible rfl
          rotate_left
          · simp only [Act.put, List.setIfInBounds_toArray, List.set_cons_zero, List.set_cons_succ, i64_w, i32_w]
            rfl
          refine take_ (i := 3) (N := some 151) (v := ?_) (a' := ?_) #[true, true, true, true, false, false, false, false, false, false, false] rfl rfl (by kernel_rfl) (fun _ _ _ h => h) (Or.inl ⟨by rfl, ?_⟩) hHeld ?_ ?_
          rotate_left
          · rintro w' ⟨s0, s1, s2, s3, s4, s5, s6, s7, s8⟩
            go_simp
            with_reducible rfl
          rotate_left
          · simp only [Act.put, List.setIfInBounds_toArray, List.set_cons_zero, List.set_cons_succ, i64_w, i32_w]
            rfl
          refine pure_ (i := 4) (N := some 152) (v := ?_) (a' := ?_) #[true, true, true, true, true, false, false, false, false, false, false] rfl rfl (by kernel_rfl) (fun _ _ _ h => h) (Or.inl ⟨by rfl, ?_⟩) ?_ ?_
          rotate_left
          · intro w'
            go_simp
            with_reducible rfl
          rotate_left
          · simp only [Act.put, List.setIfInBounds_toArray, List.set_cons_zero, List.set_cons_succ, i64_w, i32_w]
            rfl
          refine pure_ (i := 5) (N := some 153) (v := ?_) (a' := ?_) #[true, true, true, true, true, true, false, false, false, false, false] rfl rfl (by kernel_rfl) (fun _ _ _ h => h) (Or.inl ⟨by rfl, ?_⟩) ?_ ?_
          rotate_left
          · intro w'
            go_simp
            with_reducible rfl
          rotate_left
          · simp only [Act.put, List.setIfInBounds_toArray, List.set_cons_zero, List.set_cons_succ, i64_w, i32_w]
            rfl
          refine take_ (i := 6) (N := some 154) (v := ?_) (a' := ?_) #[true, true, true, true, true, true, true, false, false, false, false] rfl rfl (by kernel_rfl) (fun _ _ _ h => h) (Or.inl ⟨by rfl, ?_⟩) hHeld ?_ ?_
          rotate_left
          · rintro w' ⟨s0, s1, s2, s3, s4, s5, s6, s7, s8⟩
            go_simp
            with_reducible rfl
          rotate_left
          · simp only [Act.put, List.setIfInBounds_toArray, List.set_cons_zero, List.set_cons_succ, i64_w, i32_w]
            rfl
          refine one_ (i := 7) (N := some 155) #[true, true, true, true, true, true, true, true, false, false, false] rfl rfl (by kernel_rfl) (by decide) (fun K hK => ?_)
          refine goes_ Try.func21 (by kernel_rfl) rfl #[.pointer (some ⟨g2, 0, none⟩), .agg #[.int .i64 f, .int .i64 a, .int .i64 c, .slice A0 m0 cc0, .int .i64 t, .int .i64 n, .int .i64 o]] (by rfl) rfl rfl (by (try simp only [List.map_toArray, List.map_cons, List.map_nil]); first | done | rfl) ?_
          refine (rdo_c (OB_r.out.below HD.out) E0.out ((HV_q.out.grow (Ext.refl _ _) (fun k h => .inl (SB_q_r.out k h))).step (.of_below HD.out)) CK.out (HX.out 2) G1.out).mono ?_
          rintro e wh ⟨Ab, cb, rfl, hcb, hsl, HEc, hans⟩
          refine ⟨_, rfl, ?_⟩
          have SB_b_s : Aside0 (∀ k, Fp g R k → (fun k => k < wf.heap.size ∨ wh.heap.size ≤ k) k) := ⟨fun k h => .inl (OB_s.out.lt k h)⟩
          have SB_b_r : Aside0 (∀ k, Fp g2 R2 k → (fun k => k < wf.heap.size ∨ wh.heap.size ≤ k) k) := ⟨fun k h => .inl (OB_r.out.lt k h)⟩
          have SB_b_bo : Aside0 (∀ k, k = bo → (fun k => k < wf.heap.size ∨ wh.heap.size ≤ k) k) := ⟨fun k e => .inl (by rw [e]; exact blk_lt BK_bo.out)⟩
          have SB_b_ba : Aside0 (∀ k, k = ba → (fun k => k < wf.heap.size ∨ wh.heap.size ≤ k) k) := ⟨fun k e => .inl (by rw [e]; exact blk_lt BK_ba.out)⟩
          have hansb : Ever (fun k => k < wf.heap.size ∨ wh.heap.size ≤ k) wh (fun W => Kd.C (Kd.int .i64) W Ab ys.length ys) := (hans (fun k => k < wf.heap.size) (fun k h => h)).grow (Ext.refl _ _) (fun k h => h)
          have BK_bon : Aside0 (wh.heap[bo]? = some (.cells #[.int .i64 call, .int .i64 kind, .int .i64 addr, .int .i64 val, .int .i64 f, .int .i64 a, .int .i64 c, .slice A0 m0 cc0, .int .i64 t, .int .i64 n, .int .i64 o] 42 (0, 0))) := ⟨Ext.blk (((Ext.refl _ _).drew).trans HEc) BK_bo.out (fun e => NS_r_bo.out _ e rfl)⟩
          have BK_ban : Aside0 (wh.heap[ba]? = some (.cells #[.slice Aa ys.length ca, .int .i64 co] 30 (0, 0))) := ⟨Ext.blk (((Ext.refl _ _).drew).trans HEc) BK_ba.out (fun e => NS_r_ba.out _ e rfl)⟩
          have OB_sn : Aside0 (IsSlv 77 wh g R (X2)) := ⟨OB_s.out.ext (((Ext.refl _ _).drew).trans HEc) (fun k h1 h2 => AP_s_r.out k h1 h2)⟩
          have OB_rn : Aside0 (IsSlv 51 wh g2 R2 (X2)) := ⟨hsl⟩
          have HV_scn : Aside0 (RowE k42 (fun k => w.heap.size ≤ k) wh (some ad) ml xs) := ⟨HV_sc.out.step ((((Ext.refl _ _).drew).trans HEc).sub SB_sc_r.out)⟩
          have HV_qn : Aside0 (Ever (fun k => w.heap.size ≤ k) wh (fun W => Kd.C (Kd.int .i64) W (A0) (v).length (v))) := ⟨HV_q.out.step ((((Ext.refl _ _).drew).trans HEc).sub SB_q_r.out)⟩
          have HV_an : Aside0 (Ever (fun k => k < wb.heap.size ∨ wc.heap.size ≤ k) wh (fun W => Kd.C (Kd.int .i64) W (Aa) ((ys : List Int)).length ((ys : List Int)))) := ⟨HV_a.out.step ((((Ext.refl _ _).drew).trans HEc).sub SB_a_r.out)⟩
          have HS_an : Aside0 (wc.heap.size ≤ wh.heap.size) := ⟨Nat.le_trans HS_a.out (((Ext.refl _ _).drew).trans HEc).size⟩
          have XBn : Aside0 (Below w.heap.size w wh) := ⟨((Ext.of_below (M := fun j => w.heap.size ≤ j) XB.out).grow (((Ext.refl _ _).drew).trans HEc) (fun k e => .inl (FG_r.out k e))).below (fun _ h => h)⟩
          clear BK_bo BK_ba OB_s OB_r HV_sc HV_q HV_a HS_a XB
          have BK_bo := BK_bon
          have BK_ba := BK_ban
          have OB_s := OB_sn
          have OB_r := OB_rn
          have HV_sc := HV_scn
          have HV_q := HV_qn
          have HV_a := HV_an
          have HS_a := HS_an
          have XB := XBn
          clear BK_bon BK_ban OB_sn OB_rn HV_scn HV_qn HV_an HS_an XBn
          have HV_b : Aside0 (Ever (fun k => k < wf.heap.size ∨ wh.heap.size ≤ k) wh (fun W => Kd.C (Kd.int .i64) W (Ab) (ys).length (ys))) := ⟨hansb⟩
          have HS_b : Aside0 (wh.heap.size ≤ wh.heap.size) := ⟨Nat.le_refl _⟩
          clear hsl HEc hans hansb hcb
          refine hK.out _ _ ?_ (fun hHeld => ?_)
          · exact ⟨(blk_cell BK_ba.out 0).trans rfl, (blk_cell BK_ba.out 1).trans rfl, (blk_cell BK_bo.out 4).trans rfl, (blk_cell BK_bo.out 5).trans rfl, (blk_cell BK_bo.out 6).trans rfl, (blk_cell BK_bo.out 7).trans rfl, (blk_cell BK_bo.out 8).trans rfl, (blk_cell BK_bo.out 9).trans rfl, (blk_cell BK_bo.out 10).trans rfl⟩
          clear hK K
          refine norm_ (a' := ?_) ?_ ?_
          rotate_left
          · show Act.put _ (some 155) _ = _
            simp only [Act.put, List.setIfInBounds_toArray, List.set_cons_zero, List.set_cons_succ, i64_w, i32_w]
            rfl
          refine one_ (i := 8) (N := some 156) #[true, true, true, true, true, true, true, true, true, false, false] rfl rfl (by kernel_rfl) (by decide) (fun K hK => ?_)
          refine goes_ Try.func17 (by kernel_rfl) rfl #[.agg #[.slice Aa ys.length ca, .int .i64 co], .agg #[.slice Ab ys.length cb, .int .i64 co]] (by rfl) rfl rfl (by (try simp only [List.map_toArray, List.map_cons, List.map_nil]); first | done | rfl) ?_
          refine (asame_c _ _ _ _ ys ys co co _ rfl rfl HV_a.out.now HV_b.out.now (r := true) (by simp)).mono ?_
          rintro e wk ⟨rfl, HBc⟩
          refine ⟨_, rfl, ?_⟩
          have BK_bon : Aside0 (wk.heap[bo]? = some (.cells #[.int .i64 call, .int .i64 kind, .int .i64 addr, .int .i64 val, .int .i64 f, .int .i64 a, .int .i64 c, .slice A0 m0 cc0, .int .i64 t, .int .i64 n, .int .i64 o] 42 (0, 0))) := ⟨blk_below BK_bo.out HBc⟩
          have BK_ban : Aside0 (wk.heap[ba]? = some (.cells #[.slice Aa ys.length ca, .int .i64 co] 30 (0, 0))) := ⟨blk_below BK_ba.out HBc⟩
          have OB_sn : Aside0 (IsSlv 77 wk g R (X2)) := ⟨OB_s.out.below HBc⟩
          have OB_rn : Aside0 (IsSlv 51 wk g2 R2 (X2)) := ⟨OB_r.out.below HBc⟩
          have HV_scn : Aside0 (RowE k42 (fun k => w.heap.size ≤ k) wk (some ad) ml xs) := ⟨HV_sc.out.step (.of_below HBc)⟩
          have HV_qn : Aside0 (Ever (fun k => w.heap.size ≤ k) wk (fun W => Kd.C (Kd.int .i64) W (A0) (v).length (v))) := ⟨HV_q.out.step (.of_below HBc)⟩
          have HV_an : Aside0 (Ever (fun k => k < wb.heap.size ∨ wc.heap.size ≤ k) wk (fun W => Kd.C (Kd.int .i64) W (Aa) ((ys : List Int)).length ((ys : List Int)))) := ⟨HV_a.out.step (.of_below HBc)⟩
          have HV_bn : Aside0 (Ever (fun k => k < wf.heap.size ∨ wh.heap.size ≤ k) wk (fun W => Kd.C (Kd.int .i64) W (Ab) (ys).length (ys))) := ⟨HV_b.out.step (.of_below HBc)⟩
          have HS_an : Aside0 (wc.heap.size ≤ wk.heap.size) := ⟨Nat.le_trans HS_a.out HBc.size⟩
          have HS_bn : Aside0 (wh.heap.size ≤ wk.heap.size) := ⟨Nat.le_trans HS_b.out HBc.size⟩
          have XBn : Aside0 (Below w.heap.size w wk) := ⟨below_step XB.out HBc⟩
          clear BK_bo BK_ba OB_s OB_r HV_sc HV_q HV_a HV_b HS_a HS_b XB
          have BK_bo := BK_bon
          have BK_ba := BK_ban
          have OB_s := OB_sn
          have OB_r := OB_rn
          have HV_sc := HV_scn
          have HV_q := HV_qn
          have HV_a := HV_an
          have HV_b := HV_bn
          have HS_a := HS_an
          have HS_b := HS_bn
          have XB := XBn
          clear BK_bon BK_ban OB_sn OB_rn HV_scn HV_qn HV_an HV_bn HS_an HS_bn XBn
          clear HBc
          refine hK.out _ _ ?_ (fun hHeld => ?_)
          · exact ⟨(blk_cell BK_ba.out 0).trans rfl, (blk_cell BK_ba.out 1).trans rfl, (blk_cell BK_bo.out 4).trans rfl, (blk_cell BK_bo.out 5).trans rfl, (blk_cell BK_bo.out 6).trans rfl, (blk_cell BK_bo.out 7).trans rfl, (blk_cell BK_bo.out 8).trans rfl, (blk_cell BK_bo.out 9).trans rfl, (blk_cell BK_bo.out 10).trans rfl⟩
          clear hK K
          refine norm_ (a' := ?_) ?_ ?_
          rotate_left
          · show Act.put _ (some 156) _ = _
            simp only [Act.put, List.setIfInBounds_toArray, List.set_cons_zero, List.set_cons_succ, i64_w, i32_w]
            rfl
          refine pure_ (i := 9) (N := some 157) (v := ?_) (a' := ?_) #[true, true, true, true, true, true, true, true, true, true, false] rfl rfl (by kernel_rfl) (fun _ _ _ h => h) (Or.inl ⟨by rfl, ?_⟩) ?_ ?_
          rotate_left
          · intro w'
            go_simp
            with_reducible rfl
          rotate_left
          · simp only [Act.put, List.setIfInBounds_toArray, List.set_cons_zero, List.set_cons_succ, i64_w, i32_w]
            rfl
          refine pure_ (i := 10) (N := some 158) (v := ?_) (a' := ?_) #[true, true, true, true, true, true, true, true, true, true, true] rfl rfl (by kernel_rfl) (fun _ _ _ h => h) (Or.inl ⟨by rfl, ?_⟩) ?_ ?_
          rotate_left
          · intro w'
            go_simp
            with_reducible rfl
          rotate_left
          · simp only [Act.put, List.setIfInBounds_toArray, List.set_cons_zero, List.set_cons_succ, i64_w, i32_w]
            rfl
          refine done_ (by kernel_rfl) ?_
          go_wp2_with (fail)
          go_roundw
          case rel => exact ⟨j + 1, X2, by have := HJ.out; omega, relb HJ.out HML.out, HXN, OB_s, OB_r, HV_sc, XB⟩
          case measure => exact measb HJ.out HML.out
      · have b0 : (call == 0) = false := beq_eq_false_iff_ne.mpr hc
        clear hc
        by_cases hc : call = 1
        · have b1 : (call == 1) = true := beq_iff_eq.mpr hc
          clear hc
          obtain ⟨⟨X2, e1⟩, g1⟩ : ∃ r, setR X kind addr val = r := ⟨_, rfl⟩; have G1 := Aside0.mk g1; have HXN : Aside0 (Rng X2) := ⟨setR_rng HX.out g1⟩; clear g1
          go_upto_region 25 with (first | ((with_reducible refine gate_dst (N := 12) rfl ?_); refine box_event ?hg (N := 12) ?hd (cs := #[.int .i64 0, .int .i64 0, .int .i64 0, .int .i64 0, .int .i64 0, .int .i64 0, .int .i64 0, .slice none 0 0, .int .i64 0, .int .i64 0, .int .i64 0]) (t := 42) ?hr ?_; (case hd => rfl); (case hg => rfl); (case hr => first | (go_simp; done) | (go_simp; rfl)); intro bo hg wa hbox HBc; have RG_bo : Aside0 (w.heap.size ≤ bo) := ⟨Nat.le_trans (below_size XB.out) (Nat.le_of_eq hg.symm)⟩; have NS_s_bo : Aside0 (∀ k, Fp g R k → k ≠ bo) := ⟨fun k hk e => by have := OB_s.out.lt k hk; omega⟩; have NS_r_bo : Aside0 (∀ k, Fp g2 R2 k → k ≠ bo) := ⟨fun k hk e => by have := OB_r.out.lt k hk; omega⟩; have SB_sc_bo : Aside0 (∀ k, k = bo → (fun k => w.heap.size ≤ k) k) := ⟨fun k e => by have := RG_bo.out; show _ ≤ k; omega⟩; have SB_q_bo : Aside0 (∀ k, k = bo → (fun k => w.heap.size ≤ k) k) := ⟨fun k e => by have := RG_bo.out; show _ ≤ k; omega⟩; clear hg; have OB_sn : Aside0 (IsSlv 77 wa g R (X)) := ⟨OB_s.out.below HBc⟩; have OB_rn : Aside0 (IsSlv 51 wa g2 R2 (X)) := ⟨OB_r.out.below HBc⟩; have HV_scn : Aside0 (RowE k42 (fun k => w.heap.size ≤ k) wa (some ad) ml xs) := ⟨HV_sc.out.step (.of_below HBc)⟩; have HV_qn : Aside0 (Ever (fun k => w.heap.size ≤ k) wa (fun W => Kd.C (Kd.int .i64) W (A0) (v).length (v))) := ⟨HV_q.out.step (.of_below HBc)⟩; have XBn : Aside0 (Below w.heap.size w wa) := ⟨below_step XB.out HBc⟩; clear OB_s OB_r HV_sc HV_q XB; have OB_s := OB_sn; have OB_r := OB_rn; have HV_sc := HV_scn; have HV_q := HV_qn; have XB := XBn; clear OB_sn OB_rn HV_scn HV_qn XBn; have BK_bo : Aside0 (wa.heap[bo]? = some (.cells #[.int .i64 0, .int .i64 0, .int .i64 0, .int .i64 0, .int .i64 0, .int .i64 0, .int .i64 0, .slice none 0 0, .int .i64 0, .int .i64 0, .int .i64 0] 42 (0, 0))) := ⟨hbox⟩; clear hbox HBc; have lc1_0 : wa.cell? ⟨bo, 0, none⟩ = some (.int .i64 0) := (blk_cell BK_bo.out 0).trans rfl; have lf1_0 := blk_frozen BK_bo.out 0; have lc1_1 : wa.cell? ⟨bo, 1, none⟩ = some (.int .i64 0) := (blk_cell BK_bo.out 1).trans rfl; have lf1_1 := blk_frozen BK_bo.out 1; have lc1_2 : wa.cell? ⟨bo, 2, none⟩ = some (.int .i64 0) := (blk_cell BK_bo.out 2).trans rfl; have lf1_2 := blk_frozen BK_bo.out 2; have lc1_3 : wa.cell? ⟨bo, 3, none⟩ = some (.int .i64 0) := (blk_cell BK_bo.out 3).trans rfl; have lf1_3 := blk_frozen BK_bo.out 3; have lc1_4 : wa.cell? ⟨bo, 4, none⟩ = some (.int .i64 0) := (blk_cell BK_bo.out 4).trans rfl; have lf1_4 := blk_frozen BK_bo.out 4; have lc1_5 : wa.cell? ⟨bo, 5, none⟩ = some (.int .i64 0) := (blk_cell BK_bo.out 5).trans rfl; have lf1_5 := blk_frozen BK_bo.out 5; have lc1_6 : wa.cell? ⟨bo, 6, none⟩ = some (.int .i64 0) := (blk_cell BK_bo.out 6).trans rfl; have lf1_6 := blk_frozen BK_bo.out 6; have lc1_7 : wa.cell? ⟨bo, 7, none⟩ = some (.slice none 0 0) := (blk_cell BK_bo.out 7).trans rfl; have lf1_7 := blk_frozen BK_bo.out 7; have lc1_8 : wa.cell? ⟨bo, 8, none⟩ = some (.int .i64 0) := (blk_cell BK_bo.out 8).trans rfl; have lf1_8 := blk_frozen BK_bo.out 8; have lc1_9 : wa.cell? ⟨bo, 9, none⟩ = some (.int .i64 0) := (blk_cell BK_bo.out 9).trans rfl; have lf1_9 := blk_frozen BK_bo.out 9; have lc1_10 : wa.cell? ⟨bo, 10, none⟩ = some (.int .i64 0) := (blk_cell BK_bo.out 10).trans rfl; have lf1_10 := blk_frozen BK_bo.out 10) | ((with_reducible refine gate_store (p := 12) rfl ?_); refine store_event (w1 := ?_) rfl (p := 12) rfl rfl ?hr ?_; rotate_left; (case hr => go_simp; rfl); intro wb hw_; obtain ⟨hput, HEc⟩ := put11 hw_ BK_bo.out; clear hw_; clear lc1_0 lf1_0 lc1_1 lf1_1 lc1_2 lf1_2 lc1_3 lf1_3 lc1_4 lf1_4 lc1_5 lf1_5 lc1_6 lf1_6 lc1_7 lf1_7 lc1_8 lf1_8 lc1_9 lf1_9 lc1_10 lf1_10; have OB_sn : Aside0 (IsSlv 77 wb g R (X)) := ⟨OB_s.out.ext HEc (fun k h1 h2 => NS_s_bo.out k h1 h2)⟩; have OB_rn : Aside0 (IsSlv 51 wb g2 R2 (X)) := ⟨OB_r.out.ext HEc (fun k h1 h2 => NS_r_bo.out k h1 h2)⟩; have HV_scn : Aside0 (RowE k42 (fun k => w.heap.size ≤ k) wb (some ad) ml xs) := ⟨HV_sc.out.step (HEc.sub SB_sc_bo.out)⟩; have HV_qn : Aside0 (Ever (fun k => w.heap.size ≤ k) wb (fun W => Kd.C (Kd.int .i64) W (A0) (v).length (v))) := ⟨HV_q.out.step (HEc.sub SB_q_bo.out)⟩; have XBn : Aside0 (Below w.heap.size w wb) := ⟨((Ext.of_below (M := fun j => w.heap.size ≤ j) XB.out).grow HEc (fun k e => .inl (by rw [show k = bo from e]; exact RG_bo.out))).below (fun _ h => h)⟩; clear OB_s OB_r HV_sc HV_q XB; have OB_s := OB_sn; have OB_r := OB_rn; have HV_sc := HV_scn; have HV_q := HV_qn; have XB := XBn; clear OB_sn OB_rn HV_scn HV_qn XBn; clear BK_bo; have BK_bo : Aside0 (wb.heap[bo]? = some (.cells #[.int .i64 call, .int .i64 kind, .int .i64 addr, .int .i64 val, .int .i64 f, .int .i64 a, .int .i64 c, .slice A0 m0 cc0, .int .i64 t, .int .i64 n, .int .i64 o] 42 (0, 0))) := ⟨hput⟩; clear hput HEc; have lc2_0 : wb.cell? ⟨bo, 0, none⟩ = some (.int .i64 call) := (blk_cell BK_bo.out 0).trans rfl; have lf2_0 := blk_frozen BK_bo.out 0; have lc2_1 : wb.cell? ⟨bo, 1, none⟩ = some (.int .i64 kind) := (blk_cell BK_bo.out 1).trans rfl; have lf2_1 := blk_frozen BK_bo.out 1; have lc2_2 : wb.cell? ⟨bo, 2, none⟩ = some (.int .i64 addr) := (blk_cell BK_bo.out 2).trans rfl; have lf2_2 := blk_frozen BK_bo.out 2; have lc2_3 : wb.cell? ⟨bo, 3, none⟩ = some (.int .i64 val) := (blk_cell BK_bo.out 3).trans rfl; have lf2_3 := blk_frozen BK_bo.out 3; have lc2_4 : wb.cell? ⟨bo, 4, none⟩ = some (.int .i64 f) := (blk_cell BK_bo.out 4).trans rfl; have lf2_4 := blk_frozen BK_bo.out 4; have lc2_5 : wb.cell? ⟨bo, 5, none⟩ = some (.int .i64 a) := (blk_cell BK_bo.out 5).trans rfl; have lf2_5 := blk_frozen BK_bo.out 5; have lc2_6 : wb.cell? ⟨bo, 6, none⟩ = some (.int .i64 c) := (blk_cell BK_bo.out 6).trans rfl; have lf2_6 := blk_frozen BK_bo.out 6; have lc2_7 : wb.cell? ⟨bo, 7, none⟩ = some (.slice A0 m0 cc0) := (blk_cell BK_bo.out 7).trans rfl; have lf2_7 := blk_frozen BK_bo.out 7; have lc2_8 : wb.cell? ⟨bo, 8, none⟩ = some (.int .i64 t) := (blk_cell BK_bo.out 8).trans rfl; have lf2_8 := blk_frozen BK_bo.out 8; have lc2_9 : wb.cell? ⟨bo, 9, none⟩ = some (.int .i64 n) := (blk_cell BK_bo.out 9).trans rfl; have lf2_9 := blk_frozen BK_bo.out 9; have lc2_10 : wb.cell? ⟨bo, 10, none⟩ = some (.int .i64 o) := (blk_cell BK_bo.out 10).trans rfl; have lf2_10 := blk_frozen BK_bo.out 10))
          have HD : Aside0 (Below wb.heap.size wb wb.drew) := ⟨below_drew1 (Below.refl _ _)⟩
          have be : (e1 != e1) = false := bne_self_eq_false e1
          refine start_ (n := 17) (S := fun W => W.cell? ⟨bo, 1, none⟩ = some (.int .i64 kind) ∧ W.cell? ⟨bo, 2, none⟩ = some (.int .i64 addr) ∧ W.cell? ⟨bo, 3, none⟩ = some (.int .i64 val)) (ds := []) #[false, false, false, false, false, false, false, false, false, false, false, false, false, false, false, false, false] (by kernel_rfl) rfl rfl ?_ (fun hHeld => ?_)
          · exact ⟨(blk_cell BK_bo.out 1).trans rfl, (blk_cell BK_bo.out 2).trans rfl, (blk_cell BK_bo.out 3).trans rfl⟩
          refine pure_ (i := 0) (N := some 161) (v := ?_) (a' := ?_) #[true, false, false, false, false, false, false, false, false, false, false, false, false, false, false, false, false] rfl rfl (by kernel_rfl) (fun _ _ _ h => h) (Or.inl ⟨by rfl, ?_⟩) ?_ ?_
          rotate_left
          · intro w'
            go_simp
            with_reducible rfl
          rotate_left
          · simp only [Act.put, List.setIfInBounds_toArray, List.set_cons_zero, List.set_cons_succ, i64_w, i32_w]
            rfl
          refine pure_ (i := 1) (N := some 162) (v := ?_) (a' := ?_) #[true, true, false, false, false, false, false, false, false, false, false, false, false, false, false, false, false] rfl rfl (by kernel_rfl) (fun _ _ _ h => h) (Or.inl ⟨by rfl, ?_⟩) ?_ ?_
          rotate_left
          · intro w'
            go_simp
            with_reducible rfl
          rotate_left
          · simp only [Act.put, List.setIfInBounds_toArray, List.set_cons_zero, List.set_cons_succ, i64_w, i32_w]
            rfl
          refine take_ (i := 2) (N := some 163) (v := ?_) (a' := ?_) #[true, true, true, false, false, false, false, false, false, false, false, false, false, false, false, false, false] rfl rfl (by kernel_rfl) (fun _ _ _ h => h) (Or.inl ⟨by rfl, ?_⟩) hHeld ?_ ?_
          rotate_left
          · rintro w' ⟨s0, s1, s2⟩
            go_simp
            with_reducible rfl
          rotate_left
          · simp only [Act.put, List.setIfInBounds_toArray, List.set_cons_zero, List.set_cons_succ, i64_w, i32_w]
            rfl
          refine pure_ (i := 3) (N := some 164) (v := ?_) (a' := ?_) #[true, true, true, true, false, false, false, false, false, false, false, false, false, false, false, false, false] rfl rfl (by kernel_rfl) (fun _ _ _ h => h) (Or.inl ⟨by rfl, ?_⟩) ?_ ?_
          rotate_left
          · intro w'
            go_simp
            with_reducible rfl
          rotate_left
          · simp only [Act.put, List.setIfInBounds_toArray, List.set_cons_zero, List.set_cons_succ, i64_w, i32_w]
            rfl
          refine take_ (i := 4) (N := some 165) (v := ?_) (a' := ?_) #[true, true, true, true, true, false, false, false, false, false, false, false, false, false, false, false, false] rfl rfl (by kernel_rfl) (fun _ _ _ h => h) (Or.inl ⟨by rfl, ?_⟩) hHeld ?_ ?_
          rotate_left
          · rintro w' ⟨s0, s1, s2⟩
            go_simp
            with_reducible rfl
          rotate_left
          · simp only [Act.put, List.setIfInBounds_toArray, List.set_cons_zero, List.set_cons_succ, i64_w, i32_w]
            rfl
          refine pure_ (i := 5) (N := some 166) (v := ?_) (a' := ?_) #[true, true, true, true, true, true, false, false, false, false, false, false, false, false, false, false, false] rfl rfl (by kernel_rfl) (fun _ _ _ h => h) (Or.inl ⟨by rfl, ?_⟩) ?_ ?_
          rotate_left
          · intro w'
            go_simp
            with_reducible rfl
          rotate_left
          · simp only [Act.put, List.setIfInBounds_toArray, List.set_cons_zero, List.set_cons_succ, i64_w, i32_w]
            rfl
          refine take_ (i := 6) (N := some 167) (v := ?_) (a' := ?_) #[true, true, true, true, true, true, true, false, false, false, false, false, false, false, false, false, false] rfl rfl (by kernel_rfl) (fun _ _ _ h => h) (Or.inl ⟨by rfl, ?_⟩) hHeld ?_ ?_
          rotate_left
          · rintro w' ⟨s0, s1, s2⟩
            go_simp
            with_reducible rfl
          rotate_left
          · simp only [Act.put, List.setIfInBounds_toArray, List.set_cons_zero, List.set_cons_succ, i64_w, i32_w]
            rfl
          refine pure_ (i := 8) (N := some 169) (v := ?_) (a' := ?_) #[true, true, true, true, true, true, true, false, true, false, false, false, false, false, false, false, false] rfl rfl (by kernel_rfl) (fun _ _ _ h => h) (Or.inl ⟨by rfl, ?_⟩) ?_ ?_
          rotate_left
          · intro w'
            go_simp
            with_reducible rfl
          rotate_left
          · simp only [Act.put, List.setIfInBounds_toArray, List.set_cons_zero, List.set_cons_succ, i64_w, i32_w]
            rfl
          refine pure_ (i := 9) (N := some 170) (v := ?_) (a' := ?_) #[true, true, true, true, true, true, true, false, true, true, false, false, false, false, false, false, false] rfl rfl (by kernel_rfl) (fun _ _ _ h => h) (Or.inl ⟨by rfl, ?_⟩) ?_ ?_
          rotate_left
          · intro w'
            go_simp
            with_reducible rfl
          rotate_left
          · simp only [Act.put, List.setIfInBounds_toArray, List.set_cons_zero, List.set_cons_succ, i64_w, i32_w]
            rfl
          refine take_ (i := 10) (N := some 171) (v := ?_) (a' := ?_) #[true, true, true, true, true, true, true, false, true, true, true, false, false, false, false, false, false] rfl rfl (by kernel_rfl) (fun _ _ _ h => h) (Or.inl ⟨by rfl, ?_⟩) hHeld ?_ ?_
          rotate_left
          · rintro w' ⟨s0, s1, s2⟩
            go_simp
            with_reducible rfl
          rotate_left
          · simp only [Act.put, List.setIfInBounds_toArray, List.set_cons_zero, List.set_cons_succ, i64_w, i32_w]
            rfl
          refine pure_ (i := 11) (N := some 172) (v := ?_) (a' := ?_) #[true, true, true, true, true, true, true, false, true, true, true, true, false, false, false, false, false] rfl rfl (by kernel_rfl) (fun _ _ _ h => h) (Or.inl ⟨by rfl, ?_⟩) ?_ ?_
          rotate_left
          · intro w'
            go_simp
            with_reducible rfl
          rotate_left
          · simp only [Act.put, List.setIfInBounds_toArray, List.set_cons_zero, List.set_cons_succ, i64_w, i32_w]
            rfl
          refine take_ (i := 12) (N := some 173) (v := ?_) (a' := ?_) #[true, true, true, true, true, true, true, false, true, true, true, true, true, false, false, false, false] rfl rfl (by kernel_rfl) (fun _ _ _ h => h) (Or.inl ⟨by rfl, ?_⟩) hHeld ?_ ?_
          rotate_left
          · rintro w' ⟨s0, s1, s2⟩
            go_simp
            with_reducible rfl
          rotate_left
          · simp only [Act.put, List.setIfInBounds_toArray, List.set_cons_zero, List.set_cons_succ, i64_w, i32_w]
            rfl
          refine pure_ (i := 13) (N := some 174) (v := ?_) (a' := ?_) #[true, true, true, true, true, true, true, false, true, true, true, true, true, true, false, false, false] rfl rfl (by kernel_rfl) (fun _ _ _ h => h) (Or.inl ⟨by rfl, ?_⟩) ?_ ?_
          rotate_left
          · intro w'
            go_simp
            with_reducible rfl
          rotate_left
          · simp only [Act.put, List.setIfInBounds_toArray, List.set_cons_zero, List.set_cons_succ, i64_w, i32_w]
            rfl
          refine take_ (i := 14) (N := some 175) (v := ?_) (a' := ?_) #[true, true, true, true, true, true, true, false, true, true, true, true, true, true, true, false, false] rfl rfl (by kernel_rfl) (fun _ _ _ h => h) (Or.inl ⟨by rfl, ?_⟩) hHeld ?_ ?_
          rotate_left
          · rintro w' ⟨s0, s1, s2⟩
            go_simp
            with_reducible rfl
          rotate_left
          · simp only [Act.put, List.setIfInBounds_toArray, List.set_cons_zero, List.set_cons_succ, i64_w, i32_w]
            rfl
          refine one_ (i := 7) (N := some 168) #[true, true, true, true, true, true, true, true, true, true, true, true, true, true, true, false, false] rfl rfl (by kernel_rfl) (by decide) (fun K hK => ?_)
          refine goes_ Try.func22 (by kernel_rfl) rfl #[.pointer (some ⟨g, 0, none⟩), .int .i64 kind, .int .i64 addr, .int .i64 val] (by rfl) rfl rfl (by (try simp only [List.map_toArray, List.map_cons, List.map_nil]); first | done | rfl) ?_
          refine (set_c (OB_s.out.below HD.out) _ _ _ G1.out).mono ?_
          rintro e wh ⟨rfl, hsl, HEc⟩
          refine ⟨_, rfl, ?_⟩
          clear lc2_0 lf2_0 lc2_1 lf2_1 lc2_2 lf2_2 lc2_3 lf2_3 lc2_4 lf2_4 lc2_5 lf2_5 lc2_6 lf2_6 lc2_7 lf2_7 lc2_8 lf2_8 lc2_9 lf2_9 lc2_10 lf2_10
          have BK_bon : Aside0 (wh.heap[bo]? = some (.cells #[.int .i64 call, .int .i64 kind, .int .i64 addr, .int .i64 val, .int .i64 f, .int .i64 a, .int .i64 c, .slice A0 m0 cc0, .int .i64 t, .int .i64 n, .int .i64 o] 42 (0, 0))) := ⟨Ext.blk (((Ext.refl _ _).drew).trans HEc) BK_bo.out (fun e => NS_s_bo.out _ e rfl)⟩
          have OB_sn : Aside0 (IsSlv 77 wh g R (X2)) := ⟨hsl⟩
          have OB_rn : Aside0 (IsSlv 51 wh g2 R2 (X)) := ⟨OB_r.out.ext (((Ext.refl _ _).drew).trans HEc) (fun k h1 h2 => AP_r_s.out k h1 h2)⟩
          have HV_scn : Aside0 (RowE k42 (fun k => w.heap.size ≤ k) wh (some ad) ml xs) := ⟨HV_sc.out.step ((((Ext.refl _ _).drew).trans HEc).sub SB_sc_s.out)⟩
          have HV_qn : Aside0 (Ever (fun k => w.heap.size ≤ k) wh (fun W => Kd.C (Kd.int .i64) W (A0) (v).length (v))) := ⟨HV_q.out.step ((((Ext.refl _ _).drew).trans HEc).sub SB_q_s.out)⟩
          have XBn : Aside0 (Below w.heap.size w wh) := ⟨((Ext.of_below (M := fun j => w.heap.size ≤ j) XB.out).grow (((Ext.refl _ _).drew).trans HEc) (fun k e => .inl (FG_s.out k e))).below (fun _ h => h)⟩
          clear BK_bo OB_s OB_r HV_sc HV_q XB
          have BK_bo := BK_bon
          have OB_s := OB_sn
          have OB_r := OB_rn
          have HV_sc := HV_scn
          have HV_q := HV_qn
          have XB := XBn
          clear BK_bon OB_sn OB_rn HV_scn HV_qn XBn
          clear hsl HEc
          refine hK.out _ _ ?_ (fun hHeld => ?_)
          · exact ⟨(blk_cell BK_bo.out 1).trans rfl, (blk_cell BK_bo.out 2).trans rfl, (blk_cell BK_bo.out 3).trans rfl⟩
          clear hK K
          refine norm_ (a' := ?_) ?_ ?_
          rotate_left
          · show Act.put _ (some 168) _ = _
            simp only [Act.put, List.setIfInBounds_toArray, List.set_cons_zero, List.set_cons_succ, i64_w, i32_w]
            rfl
          refine one_ (i := 15) (N := some 176) #[true, true, true, true, true, true, true, true, true, true, true, true, true, true, true, true, false] rfl rfl (by kernel_rfl) (by decide) (fun K hK => ?_)
          refine goes_ Try.func23 (by kernel_rfl) rfl #[.pointer (some ⟨g2, 0, none⟩), .int .i64 kind, .int .i64 addr, .int .i64 val] (by rfl) rfl rfl (by (try simp only [List.map_toArray, List.map_cons, List.map_nil]); first | done | rfl) ?_
          refine (rset_c OB_r.out _ _ _ G1.out).mono ?_
          rintro e wk ⟨rfl, hsl, HEc⟩
          refine ⟨_, rfl, ?_⟩
          have BK_bon : Aside0 (wk.heap[bo]? = some (.cells #[.int .i64 call, .int .i64 kind, .int .i64 addr, .int .i64 val, .int .i64 f, .int .i64 a, .int .i64 c, .slice A0 m0 cc0, .int .i64 t, .int .i64 n, .int .i64 o] 42 (0, 0))) := ⟨Ext.blk HEc BK_bo.out (fun e => NS_r_bo.out _ e rfl)⟩
          have OB_sn : Aside0 (IsSlv 77 wk g R (X2)) := ⟨OB_s.out.ext HEc (fun k h1 h2 => AP_s_r.out k h1 h2)⟩
          have OB_rn : Aside0 (IsSlv 51 wk g2 R2 (X2)) := ⟨hsl⟩
          have HV_scn : Aside0 (RowE k42 (fun k => w.heap.size ≤ k) wk (some ad) ml xs) := ⟨HV_sc.out.step (HEc.sub SB_sc_r.out)⟩
          have HV_qn : Aside0 (Ever (fun k => w.heap.size ≤ k) wk (fun W => Kd.C (Kd.int .i64) W (A0) (v).length (v))) := ⟨HV_q.out.step (HEc.sub SB_q_r.out)⟩
          have XBn : Aside0 (Below w.heap.size w wk) := ⟨((Ext.of_below (M := fun j => w.heap.size ≤ j) XB.out).grow HEc (fun k e => .inl (FG_r.out k e))).below (fun _ h => h)⟩
          clear BK_bo OB_s OB_r HV_sc HV_q XB
          have BK_bo := BK_bon
          have OB_s := OB_sn
          have OB_r := OB_rn
          have HV_sc := HV_scn
          have HV_q := HV_qn
          have XB := XBn
          clear BK_bon OB_sn OB_rn HV_scn HV_qn XBn
          clear hsl HEc
          refine hK.out _ _ ?_ (fun hHeld => ?_)
          · exact ⟨(blk_cell BK_bo.out 1).trans rfl, (blk_cell BK_bo.out 2).trans rfl, (blk_cell BK_bo.out 3).trans rfl⟩
          clear hK K
          refine norm_ (a' := ?_) ?_ ?_
          rotate_left
          · show Act.put _ (some 176) _ = _
            simp only [Act.put, List.setIfInBounds_toArray, List.set_cons_zero, List.set_cons_succ, i64_w, i32_w]
            rfl
          refine pure_ (i := 16) (N := some 177) (v := ?_) (a' := ?_) #[true, true, true, true, true, true, true, true, true, true, true, true, true, true, true, true, true] rfl rfl (by kernel_rfl) (fun _ _ _ h => h) (Or.inl ⟨by rfl, ?_⟩) ?_ ?_
          rotate_left
          · intro w'
            go_simp
            with_reducible rfl
          rotate_left
          · simp only [Act.put, List.setIfInBounds_toArray, List.set_cons_zero, List.set_cons_succ, i64_w, i32_w]
            rfl
          refine done_ (by kernel_rfl) ?_
          go_wp2_with (fail)
          go_roundw
          case rel => exact ⟨j + 1, X2, by have := HJ.out; omega, relb HJ.out HML.out, HXN, OB_s, OB_r, HV_sc, XB⟩
          case measure => exact measb HJ.out HML.out
        · have b1 : (call == 1) = false := beq_eq_false_iff_ne.mpr hc
          clear hc
          by_cases hh : has X kind addr
          · have HH : Aside0 (decide (has X kind addr) = true) := ⟨decide_eq_true hh⟩
            obtain ⟨kk, rfl⟩ : ∃ kk : Nat, kind = (kk : Int) + 1 := ⟨(kind - 1).toNat, by have := hh.1; omega⟩
            obtain ⟨i, rfl⟩ := Int.eq_ofNat_of_zero_le hh.2.2.1
            have hk := has_k hh
            have e1 : ((kk : Int) + 1 - 1).toNat = kk := by rw [Int.add_sub_cancel]; exact Int.toNat_natCast kk
            rw [e1, Int.toNat_natCast] at hk
            obtain ⟨hK, hi⟩ := hk
            have hlK := OB_s.out.len kk hK
            obtain ⟨x, hx⟩ : ∃ x, (X kk).getD i 0 = x := ⟨_, rfl⟩
            have G : Aside0 (getR X ((kk : Int) + 1) (i : Int) = (x, 0)) := ⟨getR_at hK hi hx⟩
            obtain ⟨L, hL⟩ : ∃ L, (X kk).length = L := ⟨_, rfl⟩; obtain ⟨r, hr⟩ : ∃ r, R2 kk = r := ⟨_, rfl⟩; have HL := Aside0.mk hL; have HR := Aside0.mk hr; have HXI := Aside0.mk hx; have HK := Aside0.mk hK; rw [hL] at hi hlK; have HI := Aside0.mk hi
            have hK0 := eq_true (show (0 : Int) ≤ (kk : Int) by omega); have hK1 := eq_true (show (kk : Int) < 4 by omega); have hK2 : (kk < 4) = True := eq_true hK
            have hi0 := eq_true (show (0 : Int) ≤ (i : Int) by omega); have hi1 := eq_true (show (i : Int) < (L : Int) by omega); have hi2 : (i < L) = True := eq_true hi
            have HWK : Aside0 (wrap64 (kk : Int) = (kk : Int)) := ⟨wrap64_of (by omega) (by omega)⟩
            have bx : (x != x) = false := bne_self_eq_false x
            clear hh e1 hK hi hlK hx hL hr
            go_upto_region 15 with (first | ((with_reducible refine gate_dst (N := 12) rfl ?_); refine box_event ?hg (N := 12) ?hd (cs := #[.int .i64 0, .int .i64 0, .int .i64 0, .int .i64 0, .int .i64 0, .int .i64 0, .int .i64 0, .slice none 0 0, .int .i64 0, .int .i64 0, .int .i64 0]) (t := 42) ?hr ?_; (case hd => rfl); (case hg => rfl); (case hr => first | (go_simp; done) | (go_simp; rfl)); intro bo hg wa hbox HBc; have RG_bo : Aside0 (w.heap.size ≤ bo) := ⟨Nat.le_trans (below_size XB.out) (Nat.le_of_eq hg.symm)⟩; have NS_s_bo : Aside0 (∀ k, Fp g R k → k ≠ bo) := ⟨fun k hk e => by have := OB_s.out.lt k hk; omega⟩; have NS_r_bo : Aside0 (∀ k, Fp g2 R2 k → k ≠ bo) := ⟨fun k hk e => by have := OB_r.out.lt k hk; omega⟩; have SB_sc_bo : Aside0 (∀ k, k = bo → (fun k => w.heap.size ≤ k) k) := ⟨fun k e => by have := RG_bo.out; show _ ≤ k; omega⟩; have SB_q_bo : Aside0 (∀ k, k = bo → (fun k => w.heap.size ≤ k) k) := ⟨fun k e => by have := RG_bo.out; show _ ≤ k; omega⟩; clear hg; have OB_sn : Aside0 (IsSlv 77 wa g R (X)) := ⟨OB_s.out.below HBc⟩; have OB_rn : Aside0 (IsSlv 51 wa g2 R2 (X)) := ⟨OB_r.out.below HBc⟩; have HV_scn : Aside0 (RowE k42 (fun k => w.heap.size ≤ k) wa (some ad) ml xs) := ⟨HV_sc.out.step (.of_below HBc)⟩; have HV_qn : Aside0 (Ever (fun k => w.heap.size ≤ k) wa (fun W => Kd.C (Kd.int .i64) W (A0) (v).length (v))) := ⟨HV_q.out.step (.of_below HBc)⟩; have XBn : Aside0 (Below w.heap.size w wa) := ⟨below_step XB.out HBc⟩; clear OB_s OB_r HV_sc HV_q XB; have OB_s := OB_sn; have OB_r := OB_rn; have HV_sc := HV_scn; have HV_q := HV_qn; have XB := XBn; clear OB_sn OB_rn HV_scn HV_qn XBn; have BK_bo : Aside0 (wa.heap[bo]? = some (.cells #[.int .i64 0, .int .i64 0, .int .i64 0, .int .i64 0, .int .i64 0, .int .i64 0, .int .i64 0, .slice none 0 0, .int .i64 0, .int .i64 0, .int .i64 0] 42 (0, 0))) := ⟨hbox⟩; clear hbox HBc; have lc1_0 : wa.cell? ⟨bo, 0, none⟩ = some (.int .i64 0) := (blk_cell BK_bo.out 0).trans rfl; have lf1_0 := blk_frozen BK_bo.out 0; have lc1_1 : wa.cell? ⟨bo, 1, none⟩ = some (.int .i64 0) := (blk_cell BK_bo.out 1).trans rfl; have lf1_1 := blk_frozen BK_bo.out 1; have lc1_2 : wa.cell? ⟨bo, 2, none⟩ = some (.int .i64 0) := (blk_cell BK_bo.out 2).trans rfl; have lf1_2 := blk_frozen BK_bo.out 2; have lc1_3 : wa.cell? ⟨bo, 3, none⟩ = some (.int .i64 0) := (blk_cell BK_bo.out 3).trans rfl; have lf1_3 := blk_frozen BK_bo.out 3; have lc1_4 : wa.cell? ⟨bo, 4, none⟩ = some (.int .i64 0) := (blk_cell BK_bo.out 4).trans rfl; have lf1_4 := blk_frozen BK_bo.out 4; have lc1_5 : wa.cell? ⟨bo, 5, none⟩ = some (.int .i64 0) := (blk_cell BK_bo.out 5).trans rfl; have lf1_5 := blk_frozen BK_bo.out 5; have lc1_6 : wa.cell? ⟨bo, 6, none⟩ = some (.int .i64 0) := (blk_cell BK_bo.out 6).trans rfl; have lf1_6 := blk_frozen BK_bo.out 6; have lc1_7 : wa.cell? ⟨bo, 7, none⟩ = some (.slice none 0 0) := (blk_cell BK_bo.out 7).trans rfl; have lf1_7 := blk_frozen BK_bo.out 7; have lc1_8 : wa.cell? ⟨bo, 8, none⟩ = some (.int .i64 0) := (blk_cell BK_bo.out 8).trans rfl; have lf1_8 := blk_frozen BK_bo.out 8; have lc1_9 : wa.cell? ⟨bo, 9, none⟩ = some (.int .i64 0) := (blk_cell BK_bo.out 9).trans rfl; have lf1_9 := blk_frozen BK_bo.out 9; have lc1_10 : wa.cell? ⟨bo, 10, none⟩ = some (.int .i64 0) := (blk_cell BK_bo.out 10).trans rfl; have lf1_10 := blk_frozen BK_bo.out 10) | ((with_reducible refine gate_store (p := 12) rfl ?_); refine store_event (w1 := ?_) rfl (p := 12) rfl rfl ?hr ?_; rotate_left; (case hr => go_simp; rfl); intro wb hw_; obtain ⟨hput, HEc⟩ := put11 hw_ BK_bo.out; clear hw_; clear lc1_0 lf1_0 lc1_1 lf1_1 lc1_2 lf1_2 lc1_3 lf1_3 lc1_4 lf1_4 lc1_5 lf1_5 lc1_6 lf1_6 lc1_7 lf1_7 lc1_8 lf1_8 lc1_9 lf1_9 lc1_10 lf1_10; have OB_sn : Aside0 (IsSlv 77 wb g R (X)) := ⟨OB_s.out.ext HEc (fun k h1 h2 => NS_s_bo.out k h1 h2)⟩; have OB_rn : Aside0 (IsSlv 51 wb g2 R2 (X)) := ⟨OB_r.out.ext HEc (fun k h1 h2 => NS_r_bo.out k h1 h2)⟩; have HV_scn : Aside0 (RowE k42 (fun k => w.heap.size ≤ k) wb (some ad) ml xs) := ⟨HV_sc.out.step (HEc.sub SB_sc_bo.out)⟩; have HV_qn : Aside0 (Ever (fun k => w.heap.size ≤ k) wb (fun W => Kd.C (Kd.int .i64) W (A0) (v).length (v))) := ⟨HV_q.out.step (HEc.sub SB_q_bo.out)⟩; have XBn : Aside0 (Below w.heap.size w wb) := ⟨((Ext.of_below (M := fun j => w.heap.size ≤ j) XB.out).grow HEc (fun k e => .inl (by rw [show k = bo from e]; exact RG_bo.out))).below (fun _ h => h)⟩; clear OB_s OB_r HV_sc HV_q XB; have OB_s := OB_sn; have OB_r := OB_rn; have HV_sc := HV_scn; have HV_q := HV_qn; have XB := XBn; clear OB_sn OB_rn HV_scn HV_qn XBn; clear BK_bo; have BK_bo : Aside0 (wb.heap[bo]? = some (.cells #[.int .i64 call, .int .i64 ((kk : Int) + 1), .int .i64 (i : Int), .int .i64 val, .int .i64 f, .int .i64 a, .int .i64 c, .slice A0 m0 cc0, .int .i64 t, .int .i64 n, .int .i64 o] 42 (0, 0))) := ⟨hput⟩; clear hput HEc; have lc2_0 : wb.cell? ⟨bo, 0, none⟩ = some (.int .i64 call) := (blk_cell BK_bo.out 0).trans rfl; have lf2_0 := blk_frozen BK_bo.out 0; have lc2_1 : wb.cell? ⟨bo, 1, none⟩ = some (.int .i64 ((kk : Int) + 1)) := (blk_cell BK_bo.out 1).trans rfl; have lf2_1 := blk_frozen BK_bo.out 1; have lc2_2 : wb.cell? ⟨bo, 2, none⟩ = some (.int .i64 (i : Int)) := (blk_cell BK_bo.out 2).trans rfl; have lf2_2 := blk_frozen BK_bo.out 2; have lc2_3 : wb.cell? ⟨bo, 3, none⟩ = some (.int .i64 val) := (blk_cell BK_bo.out 3).trans rfl; have lf2_3 := blk_frozen BK_bo.out 3; have lc2_4 : wb.cell? ⟨bo, 4, none⟩ = some (.int .i64 f) := (blk_cell BK_bo.out 4).trans rfl; have lf2_4 := blk_frozen BK_bo.out 4; have lc2_5 : wb.cell? ⟨bo, 5, none⟩ = some (.int .i64 a) := (blk_cell BK_bo.out 5).trans rfl; have lf2_5 := blk_frozen BK_bo.out 5; have lc2_6 : wb.cell? ⟨bo, 6, none⟩ = some (.int .i64 c) := (blk_cell BK_bo.out 6).trans rfl; have lf2_6 := blk_frozen BK_bo.out 6; have lc2_7 : wb.cell? ⟨bo, 7, none⟩ = some (.slice A0 m0 cc0) := (blk_cell BK_bo.out 7).trans rfl; have lf2_7 := blk_frozen BK_bo.out 7; have lc2_8 : wb.cell? ⟨bo, 8, none⟩ = some (.int .i64 t) := (blk_cell BK_bo.out 8).trans rfl; have lf2_8 := blk_frozen BK_bo.out 8; have lc2_9 : wb.cell? ⟨bo, 9, none⟩ = some (.int .i64 n) := (blk_cell BK_bo.out 9).trans rfl; have lf2_9 := blk_frozen BK_bo.out 9; have lc2_10 : wb.cell? ⟨bo, 10, none⟩ = some (.int .i64 o) := (blk_cell BK_bo.out 10).trans rfl; have lf2_10 := blk_frozen BK_bo.out 10) | (go_at_call 24; refine (get_c OB_s.out _ _ G.out).mono ?_; rintro e w' ⟨rfl, rfl⟩; ))
            have HGC : Aside0 (wb.cell? ⟨g2, kk, none⟩ = some (.slice (some ⟨r, 0, none⟩) L L)) := ⟨by have h1 := OB_r.out.cell HK.out; unfold sl at h1; rw [HR.out, HL.out] at h1; exact h1⟩
            have HRC : Aside0 (wb.cell? ⟨r, i, none⟩ = some (.int .i64 x)) := ⟨by have h1 := OB_r.out.at_ (k := kk) (i := i) HK.out (by rw [HL.out]; exact HI.out); rw [HR.out, HXI.out] at h1; exact h1⟩
            have HD : Aside0 (Below wb.heap.size wb wb.drew) := ⟨below_drew1 (Below.refl _ _)⟩
            refine start_ (n := 41) (S := fun W => W.cell? ⟨bo, 1, none⟩ = some (.int .i64 ((kk : Int) + 1)) ∧ W.cell? ⟨bo, 2, none⟩ = some (.int .i64 (i : Int)) ∧ W.cell? ⟨g2, kk, none⟩ = some (.slice (some ⟨r, 0, none⟩) L L) ∧ W.cell? ⟨r, i, none⟩ = some (.int .i64 x)) (ds := []) #[false, false, false, false, false, false, false, false, false, false, false, false, false, false, false, false, false, false, false, false, false, false, false, false, false, false, false, false, false, false, false, false, false, false, false, false, false, false, false, false, false] (by kernel_rfl) rfl rfl ?_ (fun hHeld => ?_)
            · exact ⟨(blk_cell (w := wb) BK_bo.out 1).trans rfl, (blk_cell (w := wb) BK_bo.out 2).trans rfl, HGC.out, HRC.out⟩
            refine pure_ (i := 0) (N := some 86) (v := ?_) (a' := ?_) #[true, false, false, false, false, false, false, false, false, false, false, false, false, false, false, false, false, false, false, false, false, false, false, false, false, false, false, false, false, false, false, false, false, false, false, false, false, false, false, false, false] rfl rfl (by kernel_rfl) (fun _ _ _ h => h) (Or.inl ⟨by rfl, ?_⟩) ?_ ?_
            rotate_left
            · intro w'
              go_simp
              with_reducible rfl
            rotate_left
            · simp only [Act.put, List.setIfInBounds_toArray, List.set_cons_zero, List.set_cons_succ, i64_w, i32_w, HWK.out]
              rfl
            refine pure_ (i := 1) (N := some 87) (v := ?_) (a' := ?_) #[true, true, false, false, false, false, false, false, false, false, false, false, false, false, false, false, false, false, false, false, false, false, false, false, false, false, false, false, false, false, false, false, false, false, false, false, false, false, false, false, false] rfl rfl (by kernel_rfl) (fun _ _ _ h => h) (Or.inl ⟨by rfl, ?_⟩) ?_ ?_
            rotate_left
            · intro w'
              go_simp
              with_reducible rfl
            rotate_left
            · simp only [Act.put, List.setIfInBounds_toArray, List.set_cons_zero, List.set_cons_succ, i64_w, i32_w, HWK.out]
              rfl
            refine take_ (i := 2) (N := some 88) (v := ?_) (a' := ?_) #[true, true, true, false, false, false, false, false, false, false, false, false, false, false, false, false, false, false, false, false, false, false, false, false, false, false, false, false, false, false, false, false, false, false, false, false, false, false, false, false, false] rfl rfl (by kernel_rfl) (fun _ _ _ h => h) (Or.inl ⟨by rfl, ?_⟩) hHeld ?_ ?_
            rotate_left
            · rintro w' ⟨s0, s1, s2, s3⟩
              go_simp
              with_reducible rfl
            rotate_left
            · simp only [Act.put, List.setIfInBounds_toArray, List.set_cons_zero, List.set_cons_succ, i64_w, i32_w, HWK.out]
              rfl
            refine pure_ (i := 3) (N := some 89) (v := ?_) (a' := ?_) #[true, true, true, true, false, false, false, false, false, false, false, false, false, false, false, false, false, false, false, false, false, false, false, false, false, false, false, false, false, false, false, false, false, false, false, false, false, false, false, false, false] rfl rfl (by kernel_rfl) (fun _ _ _ h => h) (Or.inl ⟨by rfl, ?_⟩) ?_ ?_
            rotate_left
            · intro w'
              go_simp
              with_reducible rfl
            rotate_left
            · simp only [Act.put, List.setIfInBounds_toArray, List.set_cons_zero, List.set_cons_succ, i64_w, i32_w, HWK.out]
              rfl
            refine take_ (i := 4) (N := some 90) (v := ?_) (a' := ?_) #[true, true, true, true, true, false, false, false, false, false, false, false, false, false, false, false, false, false, false, false, false, false, false, false, false, false, false, false, false, false, false, false, false, false, false, false, false, false, false, false, false] rfl rfl (by kernel_rfl) (fun _ _ _ h => h) (Or.inl ⟨by rfl, ?_⟩) hHeld ?_ ?_
            rotate_left
            · rintro w' ⟨s0, s1, s2, s3⟩
              go_simp
              with_reducible rfl
            rotate_left
            · simp only [Act.put, List.setIfInBounds_toArray, List.set_cons_zero, List.set_cons_succ, i64_w, i32_w, HWK.out]
              rfl
            refine pure_ (i := 6) (N := some 92) (v := ?_) (a' := ?_) #[true, true, true, true, true, false, true, false, false, false, false, false, false, false, false, false, false, false, false, false, false, false, false, false, false, false, false, false, false, false, false, false, false, false, false, false, false, false, false, false, false] rfl rfl (by kernel_rfl) (fun _ _ _ h => h) (Or.inl ⟨by rfl, ?_⟩) ?_ ?_
            rotate_left
            · intro w'
              go_simp
              with_reducible rfl
            rotate_left
            · simp only [Act.put, List.setIfInBounds_toArray, List.set_cons_zero, List.set_cons_succ, i64_w, i32_w, HWK.out]
              rfl
            refine pure_ (i := 7) (N := some 93) (v := ?_) (a' := ?_) #[true, true, true, true, true, false, true, true, false, false, false, false, false, false, false, false, false, false, false, false, false, false, false, false, false, false, false, false, false, false, false, false, false, false, false, false, false, false, false, false, false] rfl rfl (by kernel_rfl) (fun _ _ _ h => h) (Or.inl ⟨by rfl, ?_⟩) ?_ ?_
            rotate_left
            · intro w'
              go_simp
              with_reducible rfl
            rotate_left
            · simp only [Act.put, List.setIfInBounds_toArray, List.set_cons_zero, List.set_cons_succ, i64_w, i32_w, HWK.out]
              rfl
            refine one_ (i := 5) (N := some 91) #[true, true, true, true, true, true, true, true, false, false, false, false, false, false, false, false, false, false, false, false, false, false, false, false, false, false, false, false, false, false, false, false, false, false, false, false, false, false, false, false, false] rfl rfl (by kernel_rfl) (by decide) (fun K hK => ?_)
            refine goes_ Try.func25 (by kernel_rfl) rfl #[.pointer (some ⟨g2, 0, none⟩), .int .i64 ((kk : Int) + 1), .int .i64 (i : Int)] (by rfl) rfl rfl (by (try simp only [List.map_toArray, List.map_cons, List.map_nil]); first | done | rfl) ?_
            refine (rhas_c (OB_r.out.below HD.out) _ _ HH.out).mono ?_
            rintro e w' ⟨rfl, rfl⟩
            refine ⟨_, rfl, ?_⟩
            refine hK.out _ _ ?_ (fun hHeld => ?_)
            · exact ⟨(blk_cell (w := wb) BK_bo.out 1).trans rfl, (blk_cell (w := wb) BK_bo.out 2).trans rfl, HGC.out, HRC.out⟩
            clear hK K
            refine norm_ (a' := ?_) ?_ ?_
            rotate_left
            · show Act.put _ (some 91) _ = _
              simp only [Act.put, List.setIfInBounds_toArray, List.set_cons_zero, List.set_cons_succ, i64_w, i32_w, HWK.out]
              rfl
            refine pure_ (i := 8) (N := some 94) (v := ?_) (a' := ?_) #[true, true, true, true, true, true, true, true, true, false, false, false, false, false, false, false, false, false, false, false, false, false, false, false, false, false, false, false, false, false, false, false, false, false, false, false, false, false, false, false, false] rfl rfl (by kernel_rfl) (fun _ _ _ h => h) (Or.inl ⟨by rfl, ?_⟩) ?_ ?_
            rotate_left
            · intro w'
              go_simp
              with_reducible rfl
            rotate_left
            · simp only [Act.put, List.setIfInBounds_toArray, List.set_cons_zero, List.set_cons_succ, i64_w, i32_w, HWK.out]
              rfl
            refine pure_ (i := 9) (N := some 95) (v := ?_) (a' := ?_) #[true, true, true, true, true, true, true, true, true, true, false, false, false, false, false, false, false, false, false, false, false, false, false, false, false, false, false, false, false, false, false, false, false, false, false, false, false, false, false, false, false] rfl rfl (by kernel_rfl) (fun _ _ _ h => h) (Or.inl ⟨by rfl, ?_⟩) ?_ ?_
            rotate_left
            · intro w'
              go_simp
              with_reducible rfl
            rotate_left
            · simp only [Act.put, List.setIfInBounds_toArray, List.set_cons_zero, List.set_cons_succ, i64_w, i32_w, HWK.out]
              rfl
            refine pure_ (i := 10) (N := some 96) (v := ?_) (a' := ?_) #[true, true, true, true, true, true, true, true, true, true, true, false, false, false, false, false, false, false, false, false, false, false, false, false, false, false, false, false, false, false, false, false, false, false, false, false, false, false, false, false, false] rfl rfl (by kernel_rfl) (fun _ _ _ h => h) (Or.inl ⟨by rfl, ?_⟩) ?_ ?_
            rotate_left
            · intro w'
              go_simp
              with_reducible rfl
            rotate_left
            · simp only [Act.put, List.setIfInBounds_toArray, List.set_cons_zero, List.set_cons_succ, i64_w, i32_w, HWK.out]
              rfl
            refine pure_ (i := 11) (N := some 97) (v := ?_) (a' := ?_) #[true, true, true, true, true, true, true, true, true, true, true, true, false, false, false, false, false, false, false, false, false, false, false, false, false, false, false, false, false, false, false, false, false, false, false, false, false, false, false, false, false] rfl rfl (by kernel_rfl) (fun _ _ _ h => h) (Or.inl ⟨by rfl, ?_⟩) ?_ ?_
            rotate_left
            · intro w'
              go_simp
              with_reducible rfl
            rotate_left
            · simp only [Act.put, List.setIfInBounds_toArray, List.set_cons_zero, List.set_cons_succ, i64_w, i32_w, HWK.out]
              rfl
            refine pure_ (i := 12) (N := some 98) (v := ?_) (a' := ?_) #[true, true, true, true, true, true, true, true, true, true, true, true, true, false, false, false, false, false, false, false, false, false, false, false, false, false, false, false, false, false, false, false, false, false, false, false, false, false, false, false, false] rfl rfl (by kernel_rfl) (fun _ _ _ h => h) (Or.inl ⟨by rfl, ?_⟩) ?_ ?_
            rotate_left
            · intro w'
              go_simp
              with_reducible rfl
            rotate_left
            · simp only [Act.put, List.setIfInBounds_toArray, List.set_cons_zero, List.set_cons_succ, i64_w, i32_w, HWK.out]
              rfl
            refine pure_ (i := 13) (N := some 99) (v := undef) (a' := ?_) #[true, true, true, true, true, true, true, true, true, true, true, true, true, true, false, false, false, false, false, false, false, false, false, false, false, false, false, false, false, false, false, false, false, false, false, false, false, false, false, false, false] rfl rfl (by kernel_rfl) (fun _ _ _ h => h) (Or.inr ⟨by rfl, rfl⟩) ?_ ?_
            rotate_left
            · simp only [Act.put, List.setIfInBounds_toArray, List.set_cons_zero, List.set_cons_succ, i64_w, i32_w, HWK.out]
              rfl
            refine pure_ (i := 14) (N := some 100) (v := undef) (a' := ?_) #[true, true, true, true, true, true, true, true, true, true, true, true, true, true, true, false, false, false, false, false, false, false, false, false, false, false, false, false, false, false, false, false, false, false, false, false, false, false, false, false, false] rfl rfl (by kernel_rfl) (fun _ _ _ h => h) (Or.inr ⟨by rfl, rfl⟩) ?_ ?_
            rotate_left
            · simp only [Act.put, List.setIfInBounds_toArray, List.set_cons_zero, List.set_cons_succ, i64_w, i32_w, HWK.out]
              rfl
            refine pure_ (i := 15) (N := some 101) (v := undef) (a' := ?_) #[true, true, true, true, true, true, true, true, true, true, true, true, true, true, true, true, false, false, false, false, false, false, false, false, false, false, false, false, false, false, false, false, false, false, false, false, false, false, false, false, false] rfl rfl (by kernel_rfl) (fun _ _ _ h => h) (Or.inr ⟨by rfl, rfl⟩) ?_ ?_
            rotate_left
            · simp only [Act.put, List.setIfInBounds_toArray, List.set_cons_zero, List.set_cons_succ, i64_w, i32_w, HWK.out]
              rfl
            refine pure_ (i := 16) (N := some 102) (v := undef) (a' := ?_) #[true, true, true, true, true, true, true, true, true, true, true, true, true, true, true, true, true, false, false, false, false, false, false, false, false, false, false, false, false, false, false, false, false, false, false, false, false, false, false, false, false] rfl rfl (by kernel_rfl) (fun _ _ _ h => h) (Or.inr ⟨by rfl, rfl⟩) ?_ ?_
            rotate_left
            · simp only [Act.put, List.setIfInBounds_toArray, List.set_cons_zero, List.set_cons_succ, i64_w, i32_w, HWK.out]
              rfl
            refine pure_ (i := 17) (N := some 103) (v := undef) (a' := ?_) #[true, true, true, true, true, true, true, true, true, true, true, true, true, true, true, true, true, true, false, false, false, false, false, false, false, false, false, false, false, false, false, false, false, false, false, false, false, false, false, false, false] rfl rfl (by kernel_rfl) (fun _ _ _ h => h) (Or.inr ⟨by rfl, rfl⟩) ?_ ?_
            rotate_left
            · simp only [Act.put, List.setIfInBounds_toArray, List.set_cons_zero, List.set_cons_succ, i64_w, i32_w, HWK.out]
              rfl
            refine pure_ (i := 18) (N := some 104) (v := undef) (a' := ?_) #[true, true, true, true, true, true, true, true, true, true, true, true, true, true, true, true, true, true, true, false, false, false, false, false, false, false, false, false, false, false, false, false, false, false, false, false, false, false, false, false, false] rfl rfl (by kernel_rfl) (fun _ _ _ h => h) (Or.inr ⟨by rfl, rfl⟩) ?_ ?_
            rotate_left
            · simp only [Act.put, List.setIfInBounds_toArray, List.set_cons_zero, List.set_cons_succ, i64_w, i32_w, HWK.out]
              rfl
            refine pure_ (i := 19) (N := some 105) (v := ?_) (a' := ?_) #[true, true, true, true, true, true, true, true, true, true, true, true, true, true, true, true, true, true, true, true, false, false, false, false, false, false, false, false, false, false, false, false, false, false, false, false, false, false, false, false, false] rfl rfl (by kernel_rfl) (fun _ _ _ h => h) (Or.inl ⟨by rfl, ?_⟩) ?_ ?_
            rotate_left
            · intro w'
              go_simp
              with_reducible rfl
            rotate_left
            · simp only [Act.put, List.setIfInBounds_toArray, List.set_cons_zero, List.set_cons_succ, i64_w, i32_w, HWK.out]
              rfl
            refine pure_ (i := 20) (N := some 106) (v := ?_) (a' := ?_) #[true, true, true, true, true, true, true, true, true, true, true, true, true, true, true, true, true, true, true, true, true, false, false, false, false, false, false, false, false, false, false, false, false, false, false, false, false, false, false, false, false] rfl rfl (by kernel_rfl) (fun _ _ _ h => h) (Or.inl ⟨by rfl, ?_⟩) ?_ ?_
            rotate_left
            · intro w'
              go_simp
              with_reducible rfl
            rotate_left
            · simp only [Act.put, List.setIfInBounds_toArray, List.set_cons_zero, List.set_cons_succ, i64_w, i32_w, HWK.out]
              rfl
            refine pure_ (i := 21) (N := some 107) (v := ?_) (a' := ?_) #[true, true, true, true, true, true, true, true, true, true, true, true, true, true, true, true, true, true, true, true, true, true, false, false, false, false, false, false, false, false, false, false, false, false, false, false, false, false, false, false, false] rfl rfl (by kernel_rfl) (fun _ _ _ h => h) (Or.inl ⟨by rfl, ?_⟩) ?_ ?_
            rotate_left
            · intro w'
              go_simp
              with_reducible rfl
            rotate_left
            · simp only [Act.put, List.setIfInBounds_toArray, List.set_cons_zero, List.set_cons_succ, i64_w, i32_w, HWK.out]
              rfl
            refine pure_ (i := 22) (N := some 108) (v := ?_) (a' := ?_) #[true, true, true, true, true, true, true, true, true, true, true, true, true, true, true, true, true, true, true, true, true, true, true, false, false, false, false, false, false, false, false, false, false, false, false, false, false, false, false, false, false] rfl rfl (by kernel_rfl) (fun _ _ _ h => h) (Or.inl ⟨by rfl, ?_⟩) ?_ ?_
            rotate_left
            · intro w'
              go_simp
              with_reducible rfl
            rotate_left
            · simp only [Act.put, List.setIfInBounds_toArray, List.set_cons_zero, List.set_cons_succ, i64_w, i32_w, HWK.out]
              rfl
            refine pure_ (i := 23) (N := some 109) (v := ?_) (a' := ?_) #[true, true, true, true, true, true, true, true, true, true, true, true, true, true, true, true, true, true, true, true, true, true, true, true, false, false, false, false, false, false, false, false, false, false, false, false, false, false, false, false, false] rfl rfl (by kernel_rfl) (fun _ _ _ h => h) (Or.inl ⟨by rfl, ?_⟩) ?_ ?_
            rotate_left
            · intro w'
              go_simp
              with_reducible rfl
            rotate_left
            · simp only [Act.put, List.setIfInBounds_toArray, List.set_cons_zero, List.set_cons_succ, i64_w, i32_w, HWK.out]
              rfl
            refine pure_ (i := 24) (N := some 110) (v := ?_) (a' := ?_) #[true, true, true, true, true, true, true, true, true, true, true, true, true, true, true, true, true, true, true, true, true, true, true, true, true, false, false, false, false, false, false, false, false, false, false, false, false, false, false, false, false] rfl rfl (by kernel_rfl) (fun _ _ _ h => h) (Or.inl ⟨by rfl, ?_⟩) ?_ ?_
            rotate_left
            · intro w'
              go_simp
              with_reducible rfl
            rotate_left
            · simp only [Act.put, List.setIfInBounds_toArray, List.set_cons_zero, List.set_cons_succ, i64_w, i32_w, HWK.out]
              rfl
            refine pure_ (i := 25) (N := some 111) (v := ?_) (a' := ?_) #[true, true, true, true, true, true, true, true, true, true, true, true, true, true, true, true, true, true, true, true, true, true, true, true, true, true, false, false, false, false, false, false, false, false, false, false, false, false, false, false, false] rfl rfl (by kernel_rfl) (fun _ _ _ h => h) (Or.inl ⟨by rfl, ?_⟩) ?_ ?_
            rotate_left
            · intro w'
              go_simp
              with_reducible rfl
            rotate_left
            · simp only [Act.put, List.setIfInBounds_toArray, List.set_cons_zero, List.set_cons_succ, i64_w, i32_w, HWK.out]
              rfl
            refine pure_ (i := 26) (N := some 112) (v := ?_) (a' := ?_) #[true, true, true, true, true, true, true, true, true, true, true, true, true, true, true, true, true, true, true, true, true, true, true, true, true, true, true, false, false, false, false, false, false, false, false, false, false, false, false, false, false] rfl rfl (by kernel_rfl) (fun _ _ _ h => h) (Or.inl ⟨by rfl, ?_⟩) ?_ ?_
            rotate_left
            · intro w'
              go_simp
              with_reducible rfl
            rotate_left
            · simp only [Act.put, List.setIfInBounds_toArray, List.set_cons_zero, List.set_cons_succ, i64_w, i32_w, HWK.out]
              rfl
            refine pure_ (i := 27) (N := some 113) (v := ?_) (a' := ?_) #[true, true, true, true, true, true, true, true, true, true, true, true, true, true, true, true, true, true, true, true, true, true, true, true, true, true, true, true, false, false, false, false, false, false, false, false, false, false, false, false, false] rfl rfl (by kernel_rfl) (fun _ _ _ h => h) (Or.inl ⟨by rfl, ?_⟩) ?_ ?_
            rotate_left
            · intro w'
              go_simp
              with_reducible rfl
            rotate_left
            · simp only [Act.put, List.setIfInBounds_toArray, List.set_cons_zero, List.set_cons_succ, i64_w, i32_w, HWK.out]
              rfl
            refine take_ (i := 28) (N := some 114) (v := ?_) (a' := ?_) #[true, true, true, true, true, true, true, true, true, true, true, true, true, true, true, true, true, true, true, true, true, true, true, true, true, true, true, true, true, false, false, false, false, false, false, false, false, false, false, false, false] rfl rfl (by kernel_rfl) (fun _ _ _ h => h) (Or.inl ⟨by rfl, ?_⟩) hHeld ?_ ?_
            rotate_left
            · rintro w' ⟨s0, s1, s2, s3⟩
              go_simp
              with_reducible rfl
            rotate_left
            · simp only [Act.put, List.setIfInBounds_toArray, List.set_cons_zero, List.set_cons_succ, i64_w, i32_w, HWK.out]
              rfl
            refine pure_ (i := 29) (N := some 115) (v := ?_) (a' := ?_) #[true, true, true, true, true, true, true, true, true, true, true, true, true, true, true, true, true, true, true, true, true, true, true, true, true, true, true, true, true, true, false, false, false, false, false, false, false, false, false, false, false] rfl rfl (by kernel_rfl) (fun _ _ _ h => h) (Or.inl ⟨by rfl, ?_⟩) ?_ ?_
            rotate_left
            · intro w'
              go_simp
              with_reducible rfl
            rotate_left
            · simp only [Act.put, List.setIfInBounds_toArray, List.set_cons_zero, List.set_cons_succ, i64_w, i32_w, HWK.out]
              rfl
            refine pure_ (i := 30) (N := some 116) (v := ?_) (a' := ?_) #[true, true, true, true, true, true, true, true, true, true, true, true, true, true, true, true, true, true, true, true, true, true, true, true, true, true, true, true, true, true, true, false, false, false, false, false, false, false, false, false, false] rfl rfl (by kernel_rfl) (fun _ _ _ h => h) (Or.inl ⟨by rfl, ?_⟩) ?_ ?_
            rotate_left
            · intro w'
              go_simp
              with_reducible rfl
            rotate_left
            · simp only [Act.put, List.setIfInBounds_toArray, List.set_cons_zero, List.set_cons_succ, i64_w, i32_w, HWK.out]
              rfl
            refine pure_ (i := 31) (N := some 117) (v := ?_) (a' := ?_) #[true, true, true, true, true, true, true, true, true, true, true, true, true, true, true, true, true, true, true, true, true, true, true, true, true, true, true, true, true, true, true, true, false, false, false, false, false, false, false, false, false] rfl rfl (by kernel_rfl) (fun _ _ _ h => h) (Or.inl ⟨by rfl, ?_⟩) ?_ ?_
            rotate_left
            · intro w'
              go_simp
              with_reducible rfl
            rotate_left
            · simp only [Act.put, List.setIfInBounds_toArray, List.set_cons_zero, List.set_cons_succ, i64_w, i32_w, HWK.out]
              rfl
            refine take_ (i := 32) (N := some 118) (v := ?_) (a' := ?_) #[true, true, true, true, true, true, true, true, true, true, true, true, true, true, true, true, true, true, true, true, true, true, true, true, true, true, true, true, true, true, true, true, true, false, false, false, false, false, false, false, false] rfl rfl (by kernel_rfl) (fun _ _ _ h => h) (Or.inl ⟨by rfl, ?_⟩) hHeld ?_ ?_
            rotate_left
            · rintro w' ⟨s0, s1, s2, s3⟩
              go_simp
              with_reducible rfl
            rotate_left
            · simp only [Act.put, List.setIfInBounds_toArray, List.set_cons_zero, List.set_cons_succ, i64_w, i32_w, HWK.out]
              rfl
            refine take_ (i := 33) (N := some 119) (v := ?_) (a' := ?_) #[true, true, true, true, true, true, true, true, true, true, true, true, true, true, true, true, true, true, true, true, true, true, true, true, true, true, true, true, true, true, true, true, true, true, false, false, false, false, false, false, false] rfl rfl (by kernel_rfl) (fun _ _ _ h => h) (Or.inl ⟨by rfl, ?_⟩) hHeld ?_ ?_
            rotate_left
            · rintro w' ⟨s0, s1, s2, s3⟩
              go_simp
              with_reducible rfl
            rotate_left
            · simp only [Act.put, List.setIfInBounds_toArray, List.set_cons_zero, List.set_cons_succ, i64_w, i32_w, HWK.out]
              rfl
            refine pure_ (i := 34) (N := some 120) (v := ?_) (a' := ?_) #[true, true, true, true, true, true, true, true, true, true, true, true, true, true, true, true, true, true, true, true, true, true, true, true, true, true, true, true, true, true, true, true, true, true, true, false, false, false, false, false, false] rfl rfl (by kernel_rfl) (fun _ _ _ h => h) (Or.inl ⟨by rfl, ?_⟩) ?_ ?_
            rotate_left
            · intro w'
              go_simp
              with_reducible rfl
            rotate_left
            · simp only [Act.put, List.setIfInBounds_toArray, List.set_cons_zero, List.set_cons_succ, i64_w, i32_w, HWK.out]
              rfl
            refine take_ (i := 35) (N := some 121) (v := ?_) (a' := ?_) #[true, true, true, true, true, true, true, true, true, true, true, true, true, true, true, true, true, true, true, true, true, true, true, true, true, true, true, true, true, true, true, true, true, true, true, true, false, false, false, false, false] rfl rfl (by kernel_rfl) (fun _ _ _ h => h) (Or.inl ⟨by rfl, ?_⟩) hHeld ?_ ?_
            rotate_left
            · rintro w' ⟨s0, s1, s2, s3⟩
              go_simp
              with_reducible rfl
            rotate_left
            · simp only [Act.put, List.setIfInBounds_toArray, List.set_cons_zero, List.set_cons_succ, i64_w, i32_w, HWK.out]
              rfl
            refine take_ (i := 36) (N := some 122) (v := ?_) (a' := ?_) #[true, true, true, true, true, true, true, true, true, true, true, true, true, true, true, true, true, true, true, true, true, true, true, true, true, true, true, true, true, true, true, true, true, true, true, true, true, false, false, false, false] rfl rfl (by kernel_rfl) (fun _ _ _ h => h) (Or.inl ⟨by rfl, ?_⟩) hHeld ?_ ?_
            rotate_left
            · rintro w' ⟨s0, s1, s2, s3⟩
              go_simp
              with_reducible rfl
            rotate_left
            · simp only [Act.put, List.setIfInBounds_toArray, List.set_cons_zero, List.set_cons_succ, i64_w, i32_w, HWK.out]
              rfl
            refine take_ (i := 37) (N := some 123) (v := ?_) (a' := ?_) #[true, true, true, true, true, true, true, true, true, true, true, true, true, true, true, true, true, true, true, true, true, true, true, true, true, true, true, true, true, true, true, true, true, true, true, true, true, true, false, false, false] rfl rfl (by kernel_rfl) (fun _ _ _ h => h) (Or.inl ⟨by rfl, ?_⟩) hHeld ?_ ?_
            rotate_left
            · rintro w' ⟨s0, s1, s2, s3⟩
              go_simp
              with_reducible rfl
            rotate_left
            · simp only [Act.put, List.setIfInBounds_toArray, List.set_cons_zero, List.set_cons_succ, i64_w, i32_w, HWK.out]
              rfl
            refine pure_ (i := 38) (N := some 124) (v := ?_) (a' := ?_) #[true, true, true, true, true, true, true, true, true, true, true, true, true, true, true, true, true, true, true, true, true, true, true, true, true, true, true, true, true, true, true, true, true, true, true, true, true, true, true, false, false] rfl rfl (by kernel_rfl) (fun _ _ _ h => h) (Or.inl ⟨by rfl, ?_⟩) ?_ ?_
            rotate_left
            · intro w'
              go_simp
              with_reducible rfl
            rotate_left
            · simp only [Act.put, List.setIfInBounds_toArray, List.set_cons_zero, List.set_cons_succ, i64_w, i32_w, HWK.out]
              rfl
            refine pure_ (i := 39) (N := some 125) (v := ?_) (a' := ?_) #[true, true, true, true, true, true, true, true, true, true, true, true, true, true, true, true, true, true, true, true, true, true, true, true, true, true, true, true, true, true, true, true, true, true, true, true, true, true, true, true, false] rfl rfl (by kernel_rfl) (fun _ _ _ h => h) (Or.inl ⟨by rfl, ?_⟩) ?_ ?_
            rotate_left
            · intro w'
              go_simp
              with_reducible rfl
            rotate_left
            · simp only [Act.put, List.setIfInBounds_toArray, List.set_cons_zero, List.set_cons_succ, i64_w, i32_w, HWK.out]
              rfl
            refine pure_ (i := 40) (N := some 126) (v := ?_) (a' := ?_) #[true, true, true, true, true, true, true, true, true, true, true, true, true, true, true, true, true, true, true, true, true, true, true, true, true, true, true, true, true, true, true, true, true, true, true, true, true, true, true, true, true] rfl rfl (by kernel_rfl) (fun _ _ _ h => h) (Or.inl ⟨by rfl, ?_⟩) ?_ ?_
            rotate_left
            · intro w'
              go_simp
              with_reducible rfl
            rotate_left
            · simp only [Act.put, List.setIfInBounds_toArray, List.set_cons_zero, List.set_cons_succ, i64_w, i32_w, HWK.out]
              rfl
            refine done_ (by kernel_rfl) ?_
            clear lc2_0 lf2_0 lc2_1 lf2_1 lc2_2 lf2_2 lc2_3 lf2_3 lc2_4 lf2_4 lc2_5 lf2_5 lc2_6 lf2_6 lc2_7 lf2_7 lc2_8 lf2_8 lc2_9 lf2_9 lc2_10 lf2_10
            have BK_bon : Aside0 (wb.drew.heap[bo]? = some (.cells #[.int .i64 call, .int .i64 ((kk : Int) + 1), .int .i64 (i : Int), .int .i64 val, .int .i64 f, .int .i64 a, .int .i64 c, .slice A0 m0 cc0, .int .i64 t, .int .i64 n, .int .i64 o] 42 (0, 0))) := ⟨blk_below BK_bo.out HD.out⟩
            have OB_sn : Aside0 (IsSlv 77 wb.drew g R (X)) := ⟨OB_s.out.below HD.out⟩
            have OB_rn : Aside0 (IsSlv 51 wb.drew g2 R2 (X)) := ⟨OB_r.out.below HD.out⟩
            have HV_scn : Aside0 (RowE k42 (fun k => w.heap.size ≤ k) wb.drew (some ad) ml xs) := ⟨HV_sc.out.step (.of_below HD.out)⟩
            have HV_qn : Aside0 (Ever (fun k => w.heap.size ≤ k) wb.drew (fun W => Kd.C (Kd.int .i64) W (A0) (v).length (v))) := ⟨HV_q.out.step (.of_below HD.out)⟩
            have XBn : Aside0 (Below w.heap.size w wb.drew) := ⟨below_step XB.out HD.out⟩
            clear BK_bo OB_s OB_r HV_sc HV_q XB
            have BK_bo := BK_bon
            have OB_s := OB_sn
            have OB_r := OB_rn
            have HV_sc := HV_scn
            have HV_q := HV_qn
            have XB := XBn
            clear BK_bon OB_sn OB_rn HV_scn HV_qn XBn
            go_wp2_with (fail)
            go_roundw
            case rel => exact ⟨j + 1, X, by have := HJ.out; omega, relb HJ.out HML.out, HX, OB_s, OB_r, HV_sc, XB⟩
            case measure => exact measb HJ.out HML.out
          · have HH : Aside0 (decide (has X kind addr) = false) := ⟨decide_eq_false hh⟩
            have G : Aside0 (getR X kind addr = (0, 1)) := ⟨by unfold getR; rw [if_neg hh]⟩; clear hh
            go_upto_region 15 with (first | ((with_reducible refine gate_dst (N := 12) rfl ?_); refine box_event ?hg (N := 12) ?hd (cs := #[.int .i64 0, .int .i64 0, .int .i64 0, .int .i64 0, .int .i64 0, .int .i64 0, .int .i64 0, .slice none 0 0, .int .i64 0, .int .i64 0, .int .i64 0]) (t := 42) ?hr ?_; (case hd => rfl); (case hg => rfl); (case hr => first | (go_simp; done) | (go_simp; rfl)); intro bo hg wa hbox HBc; have RG_bo : Aside0 (w.heap.size ≤ bo) := ⟨Nat.le_trans (below_size XB.out) (Nat.le_of_eq hg.symm)⟩; have NS_s_bo : Aside0 (∀ k, Fp g R k → k ≠ bo) := ⟨fun k hk e => by have := OB_s.out.lt k hk; omega⟩; have NS_r_bo : Aside0 (∀ k, Fp g2 R2 k → k ≠ bo) := ⟨fun k hk e => by have := OB_r.out.lt k hk; omega⟩; have SB_sc_bo : Aside0 (∀ k, k = bo → (fun k => w.heap.size ≤ k) k) := ⟨fun k e => by have := RG_bo.out; show _ ≤ k; omega⟩; have SB_q_bo : Aside0 (∀ k, k = bo → (fun k => w.heap.size ≤ k) k) := ⟨fun k e => by have := RG_bo.out; show _ ≤ k; omega⟩; clear hg; have OB_sn : Aside0 (IsSlv 77 wa g R (X)) := ⟨OB_s.out.below HBc⟩; have OB_rn : Aside0 (IsSlv 51 wa g2 R2 (X)) := ⟨OB_r.out.below HBc⟩; have HV_scn : Aside0 (RowE k42 (fun k => w.heap.size ≤ k) wa (some ad) ml xs) := ⟨HV_sc.out.step (.of_below HBc)⟩; have HV_qn : Aside0 (Ever (fun k => w.heap.size ≤ k) wa (fun W => Kd.C (Kd.int .i64) W (A0) (v).length (v))) := ⟨HV_q.out.step (.of_below HBc)⟩; have XBn : Aside0 (Below w.heap.size w wa) := ⟨below_step XB.out HBc⟩; clear OB_s OB_r HV_sc HV_q XB; have OB_s := OB_sn; have OB_r := OB_rn; have HV_sc := HV_scn; have HV_q := HV_qn; have XB := XBn; clear OB_sn OB_rn HV_scn HV_qn XBn; have BK_bo : Aside0 (wa.heap[bo]? = some (.cells #[.int .i64 0, .int .i64 0, .int .i64 0, .int .i64 0, .int .i64 0, .int .i64 0, .int .i64 0, .slice none 0 0, .int .i64 0, .int .i64 0, .int .i64 0] 42 (0, 0))) := ⟨hbox⟩; clear hbox HBc; have lc1_0 : wa.cell? ⟨bo, 0, none⟩ = some (.int .i64 0) := (blk_cell BK_bo.out 0).trans rfl; have lf1_0 := blk_frozen BK_bo.out 0; have lc1_1 : wa.cell? ⟨bo, 1, none⟩ = some (.int .i64 0) := (blk_cell BK_bo.out 1).trans rfl; have lf1_1 := blk_frozen BK_bo.out 1; have lc1_2 : wa.cell? ⟨bo, 2, none⟩ = some (.int .i64 0) := (blk_cell BK_bo.out 2).trans rfl; have lf1_2 := blk_frozen BK_bo.out 2; have lc1_3 : wa.cell? ⟨bo, 3, none⟩ = some (.int .i64 0) := (blk_cell BK_bo.out 3).trans rfl; have lf1_3 := blk_frozen BK_bo.out 3; have lc1_4 : wa.cell? ⟨bo, 4, none⟩ = some (.int .i64 0) := (blk_cell BK_bo.out 4).trans rfl; have lf1_4 := blk_frozen BK_bo.out 4; have lc1_5 : wa.cell? ⟨bo, 5, none⟩ = some (.int .i64 0) := (blk_cell BK_bo.out 5).trans rfl; have lf1_5 := blk_frozen BK_bo.out 5; have lc1_6 : wa.cell? ⟨bo, 6, none⟩ = some (.int .i64 0) := (blk_cell BK_bo.out 6).trans rfl; have lf1_6 := blk_frozen BK_bo.out 6; have lc1_7 : wa.cell? ⟨bo, 7, none⟩ = some (.slice none 0 0) := (blk_cell BK_bo.out 7).trans rfl; have lf1_7 := blk_frozen BK_bo.out 7; have lc1_8 : wa.cell? ⟨bo, 8, none⟩ = some (.int .i64 0) := (blk_cell BK_bo.out 8).trans rfl; have lf1_8 := blk_frozen BK_bo.out 8; have lc1_9 : wa.cell? ⟨bo, 9, none⟩ = some (.int .i64 0) := (blk_cell BK_bo.out 9).trans rfl; have lf1_9 := blk_frozen BK_bo.out 9; have lc1_10 : wa.cell? ⟨bo, 10, none⟩ = some (.int .i64 0) := (blk_cell BK_bo.out 10).trans rfl; have lf1_10 := blk_frozen BK_bo.out 10) | ((with_reducible refine gate_store (p := 12) rfl ?_); refine store_event (w1 := ?_) rfl (p := 12) rfl rfl ?hr ?_; rotate_left; (case hr => go_simp; rfl); intro wb hw_; obtain ⟨hput, HEc⟩ := put11 hw_ BK_bo.out; clear hw_; clear lc1_0 lf1_0 lc1_1 lf1_1 lc1_2 lf1_2 lc1_3 lf1_3 lc1_4 lf1_4 lc1_5 lf1_5 lc1_6 lf1_6 lc1_7 lf1_7 lc1_8 lf1_8 lc1_9 lf1_9 lc1_10 lf1_10; have OB_sn : Aside0 (IsSlv 77 wb g R (X)) := ⟨OB_s.out.ext HEc (fun k h1 h2 => NS_s_bo.out k h1 h2)⟩; have OB_rn : Aside0 (IsSlv 51 wb g2 R2 (X)) := ⟨OB_r.out.ext HEc (fun k h1 h2 => NS_r_bo.out k h1 h2)⟩; have HV_scn : Aside0 (RowE k42 (fun k => w.heap.size ≤ k) wb (some ad) ml xs) := ⟨HV_sc.out.step (HEc.sub SB_sc_bo.out)⟩; have HV_qn : Aside0 (Ever (fun k => w.heap.size ≤ k) wb (fun W => Kd.C (Kd.int .i64) W (A0) (v).length (v))) := ⟨HV_q.out.step (HEc.sub SB_q_bo.out)⟩; have XBn : Aside0 (Below w.heap.size w wb) := ⟨((Ext.of_below (M := fun j => w.heap.size ≤ j) XB.out).grow HEc (fun k e => .inl (by rw [show k = bo from e]; exact RG_bo.out))).below (fun _ h => h)⟩; clear OB_s OB_r HV_sc HV_q XB; have OB_s := OB_sn; have OB_r := OB_rn; have HV_sc := HV_scn; have HV_q := HV_qn; have XB := XBn; clear OB_sn OB_rn HV_scn HV_qn XBn; clear BK_bo; have BK_bo : Aside0 (wb.heap[bo]? = some (.cells #[.int .i64 call, .int .i64 kind, .int .i64 addr, .int .i64 val, .int .i64 f, .int .i64 a, .int .i64 c, .slice A0 m0 cc0, .int .i64 t, .int .i64 n, .int .i64 o] 42 (0, 0))) := ⟨hput⟩; clear hput HEc; have lc2_0 : wb.cell? ⟨bo, 0, none⟩ = some (.int .i64 call) := (blk_cell BK_bo.out 0).trans rfl; have lf2_0 := blk_frozen BK_bo.out 0; have lc2_1 : wb.cell? ⟨bo, 1, none⟩ = some (.int .i64 kind) := (blk_cell BK_bo.out 1).trans rfl; have lf2_1 := blk_frozen BK_bo.out 1; have lc2_2 : wb.cell? ⟨bo, 2, none⟩ = some (.int .i64 addr) := (blk_cell BK_bo.out 2).trans rfl; have lf2_2 := blk_frozen BK_bo.out 2; have lc2_3 : wb.cell? ⟨bo, 3, none⟩ = some (.int .i64 val) := (blk_cell BK_bo.out 3).trans rfl; have lf2_3 := blk_frozen BK_bo.out 3; have lc2_4 : wb.cell? ⟨bo, 4, none⟩ = some (.int .i64 f) := (blk_cell BK_bo.out 4).trans rfl; have lf2_4 := blk_frozen BK_bo.out 4; have lc2_5 : wb.cell? ⟨bo, 5, none⟩ = some (.int .i64 a) := (blk_cell BK_bo.out 5).trans rfl; have lf2_5 := blk_frozen BK_bo.out 5; have lc2_6 : wb.cell? ⟨bo, 6, none⟩ = some (.int .i64 c) := (blk_cell BK_bo.out 6).trans rfl; have lf2_6 := blk_frozen BK_bo.out 6; have lc2_7 : wb.cell? ⟨bo, 7, none⟩ = some (.slice A0 m0 cc0) := (blk_cell BK_bo.out 7).trans rfl; have lf2_7 := blk_frozen BK_bo.out 7; have lc2_8 : wb.cell? ⟨bo, 8, none⟩ = some (.int .i64 t) := (blk_cell BK_bo.out 8).trans rfl; have lf2_8 := blk_frozen BK_bo.out 8; have lc2_9 : wb.cell? ⟨bo, 9, none⟩ = some (.int .i64 n) := (blk_cell BK_bo.out 9).trans rfl; have lf2_9 := blk_frozen BK_bo.out 9; have lc2_10 : wb.cell? ⟨bo, 10, none⟩ = some (.int .i64 o) := (blk_cell BK_bo.out 10).trans rfl; have lf2_10 := blk_frozen BK_bo.out 10) | (go_at_call 24; refine (get_c OB_s.out _ _ G.out).mono ?_; rintro e w' ⟨rfl, rfl⟩; ))
            have HD : Aside0 (Below wb.heap.size wb wb.drew) := ⟨below_drew1 (Below.refl _ _)⟩
            refine start_ (n := 41) (S := fun W => W.cell? ⟨bo, 1, none⟩ = some (.int .i64 kind) ∧ W.cell? ⟨bo, 2, none⟩ = some (.int .i64 addr)) (ds := []) #[false, false, false, false, false, false, false, false, false, false, false, false, false, false, false, false, false, false, false, false, false, false, false, false, false, false, false, false, false, false, false, false, false, false, false, false, false, false, false, false, false] (by kernel_rfl) rfl rfl ?_ (fun hHeld => ?_)
            · exact ⟨(blk_cell (w := wb) BK_bo.out 1).trans rfl, (blk_cell (w := wb) BK_bo.out 2).trans rfl⟩
            refine pure_ (i := 0) (N := some 86) (v := ?_) (a' := ?_) #[true, false, false, false, false, false, false, false, false, false, false, false, false, false, false, false, false, false, false, false, false, false, false, false, false, false, false, false, false, false, false, false, false, false, false, false, false, false, false, false, false] rfl rfl (by kernel_rfl) (fun _ _ _ h => h) (Or.inl ⟨by rfl, ?_⟩) ?_ ?_
            rotate_left
            · intro w'
              go_simp
              with_reducible rfl
            rotate_left
            · simp only [Act.put, List.setIfInBounds_toArray, List.set_cons_zero, List.set_cons_succ, i64_w, i32_w]
              rfl
            refine pure_ (i := 1) (N := some 87) (v := ?_) (a' := ?_) #[true, true, false, false, false, false, false, false, false, false, false, false, false, false, false, false, false, false, false, false, false, false, false, false, false, false, false, false, false, false, false, false, false, false, false, false, false, false, false, false, false] rfl rfl (by kernel_rfl) (fun _ _ _ h => h) (Or.inl ⟨by rfl, ?_⟩) ?_ ?_
            rotate_left
            · intro w'
              go_simp
              with_reducible rfl
            rotate_left
            · simp only [Act.put, List.setIfInBounds_toArray, List.set_cons_zero, List.set_cons_succ, i64_w, i32_w]
              rfl
            refine take_ (i := 2) (N := some 88) (v := ?_) (a' := ?_) #[true, true, true, false, false, false, false, false, false, false, false, false, false, false, false, false, false, false, false, false, false, false, false, false, false, false, false, false, false, false, false, false, false, false, false, false, false, false, false, false, false] rfl rfl (by kernel_rfl) (fun _ _ _ h => h) (Or.inl ⟨by rfl, ?_⟩) hHeld ?_ ?_
            rotate_left
            · rintro w' ⟨s0, s1⟩
              go_simp
              with_reducible rfl
            rotate_left
            · simp only [Act.put, List.setIfInBounds_toArray, List.set_cons_zero, List.set_cons_succ, i64_w, i32_w]
              rfl
            refine pure_ (i := 3) (N := some 89) (v := ?_) (a' := ?_) #[true, true, true, true, false, false, false, false, false, false, false, false, false, false, false, false, false, false, false, false, false, false, false, false, false, false, false, false, false, false, false, false, false, false, false, false, false, false, false, false, false] rfl rfl (by kernel_rfl) (fun _ _ _ h => h) (Or.inl ⟨by rfl, ?_⟩) ?_ ?_
            rotate_left
            · intro w'
              go_simp
              with_reducible rfl
            rotate_left
            · simp only [Act.put, List.setIfInBounds_toArray, List.set_cons_zero, List.set_cons_succ, i64_w, i32_w]
              rfl
            refine take_ (i := 4) (N := some 90) (v := ?_) (a' := ?_) #[true, true, true, true, true, false, false, false, false, false, false, false, false, false, false, false, false, false, false, false, false, false, false, false, false, false, false, false, false, false, false, false, false, false, false, false, false, false, false, false, false] rfl rfl (by kernel_rfl) (fun _ _ _ h => h) (Or.inl ⟨by rfl, ?_⟩) hHeld ?_ ?_
            rotate_left
            · rintro w' ⟨s0, s1⟩
              go_simp
              with_reducible rfl
            rotate_left
            · simp only [Act.put, List.setIfInBounds_toArray, List.set_cons_zero, List.set_cons_succ, i64_w, i32_w]
              rfl
            refine pure_ (i := 6) (N := some 92) (v := ?_) (a' := ?_) #[true, true, true, true, true, false, true, false, false, false, false, false, false, false, false, false, false, false, false, false, false, false, false, false, false, false, false, false, false, false, false, false, false, false, false, false, false, false, false, false, false] rfl rfl (by kernel_rfl) (fun _ _ _ h => h) (Or.inl ⟨by rfl, ?_⟩) ?_ ?_
            rotate_left
            · intro w'
              go_simp
              with_reducible rfl
            rotate_left
            · simp only [Act.put, List.setIfInBounds_toArray, List.set_cons_zero, List.set_cons_succ, i64_w, i32_w]
              rfl
            refine pure_ (i := 7) (N := some 93) (v := ?_) (a' := ?_) #[true, true, true, true, true, false, true, true, false, false, false, false, false, false, false, false, false, false, false, false, false, false, false, false, false, false, false, false, false, false, false, false, false, false, false, false, false, false, false, false, false] rfl rfl (by kernel_rfl) (fun _ _ _ h => h) (Or.inl ⟨by rfl, ?_⟩) ?_ ?_
            rotate_left
            · intro w'
              go_simp
              with_reducible rfl
            rotate_left
            · simp only [Act.put, List.setIfInBounds_toArray, List.set_cons_zero, List.set_cons_succ, i64_w, i32_w]
              rfl
            refine one_ (i := 5) (N := some 91) #[true, true, true, true, true, true, true, true, false, false, false, false, false, false, false, false, false, false, false, false, false, false, false, false, false, false, false, false, false, false, false, false, false, false, false, false, false, false, false, false, false] rfl rfl (by kernel_rfl) (by decide) (fun K hK => ?_)
            refine goes_ Try.func25 (by kernel_rfl) rfl #[.pointer (some ⟨g2, 0, none⟩), .int .i64 kind, .int .i64 addr] (by rfl) rfl rfl (by (try simp only [List.map_toArray, List.map_cons, List.map_nil]); first | done | rfl) ?_
            refine (rhas_c (OB_r.out.below HD.out) _ _ HH.out).mono ?_
            rintro e w' ⟨rfl, rfl⟩
            refine ⟨_, rfl, ?_⟩
            refine hK.out _ _ ?_ (fun hHeld => ?_)
            · exact ⟨(blk_cell (w := wb) BK_bo.out 1).trans rfl, (blk_cell (w := wb) BK_bo.out 2).trans rfl⟩
            clear hK K
            refine norm_ (a' := ?_) ?_ ?_
            rotate_left
            · show Act.put _ (some 91) _ = _
              simp only [Act.put, List.setIfInBounds_toArray, List.set_cons_zero, List.set_cons_succ, i64_w, i32_w]
              rfl
            refine pure_ (i := 8) (N := some 94) (v := ?_) (a' := ?_) #[true, true, true, true, true, true, true, true, true, false, false, false, false, false, false, false, false, false, false, false, false, false, false, false, false, false, false, false, false, false, false, false, false, false, false, false, false, false, false, false, false] rfl rfl (by kernel_rfl) (fun _ _ _ h => h) (Or.inl ⟨by rfl, ?_⟩) ?_ ?_
            rotate_left
            · intro w'
              go_simp
              with_reducible rfl
            rotate_left
            · simp only [Act.put, List.setIfInBounds_toArray, List.set_cons_zero, List.set_cons_succ, i64_w, i32_w]
              rfl
            refine pure_ (i := 9) (N := some 95) (v := ?_) (a' := ?_) #[true, true, true, true, true, true, true, true, true, true, false, false, false, false, false, false, false, false, false, false, false, false, false, false, false, false, false, false, false, false, false, false, false, false, false, false, false, false, false, false, false] rfl rfl (by kernel_rfl) (fun _ _ _ h => h) (Or.inl ⟨by rfl, ?_⟩) ?_ ?_
            rotate_left
            · intro w'
              go_simp
              with_reducible rfl
            rotate_left
            · simp only [Act.put, List.setIfInBounds_toArray, List.set_cons_zero, List.set_cons_succ, i64_w, i32_w]
              rfl
            refine pure_ (i := 10) (N := some 96) (v := ?_) (a' := ?_) #[true, true, true, true, true, true, true, true, true, true, true, false, false, false, false, false, false, false, false, false, false, false, false, false, false, false, false, false, false, false, false, false, false, false, false, false, false, false, false, false, false] rfl rfl (by kernel_rfl) (fun _ _ _ h => h) (Or.inl ⟨by rfl, ?_⟩) ?_ ?_
            rotate_left
            · intro w'
              go_simp
              with_reducible rfl
            rotate_left
            · simp only [Act.put, List.setIfInBounds_toArray, List.set_cons_zero, List.set_cons_succ, i64_w, i32_w]
              rfl
            refine pure_ (i := 11) (N := some 97) (v := ?_) (a' := ?_) #[true, true, true, true, true, true, true, true, true, true, true, true, false, false, false, false, false, false, false, false, false, false, false, false, false, false, false, false, false, false, false, false, false, false, false, false, false, false, false, false, false] rfl rfl (by kernel_rfl) (fun _ _ _ h => h) (Or.inl ⟨by rfl, ?_⟩) ?_ ?_
            rotate_left
            · intro w'
              go_simp
              with_reducible rfl
            rotate_left
            · simp only [Act.put, List.setIfInBounds_toArray, List.set_cons_zero, List.set_cons_succ, i64_w, i32_w]
              rfl
            refine pure_ (i := 12) (N := some 98) (v := ?_) (a' := ?_) #[true, true, true, true, true, true, true, true, true, true, true, true, true, false, false, false, false, false, false, false, false, false, false, false, false, false, false, false, false, false, false, false, false, false, false, false, false, false, false, false, false] rfl rfl (by kernel_rfl) (fun _ _ _ h => h) (Or.inl ⟨by rfl, ?_⟩) ?_ ?_
            rotate_left
            · intro w'
              go_simp
              with_reducible rfl
            rotate_left
            · simp only [Act.put, List.setIfInBounds_toArray, List.set_cons_zero, List.set_cons_succ, i64_w, i32_w]
              rfl
            refine pure_ (i := 13) (N := some 99) (v := ?_) (a' := ?_) #[true, true, true, true, true, true, true, true, true, true, true, true, true, true, false, false, false, false, false, false, false, false, false, false, false, false, false, false, false, false, false, false, false, false, false, false, false, false, false, false, false] rfl rfl (by kernel_rfl) (fun _ _ _ h => h) (Or.inl ⟨by rfl, ?_⟩) ?_ ?_
            rotate_left
            · intro w'
              go_simp
              with_reducible rfl
            rotate_left
            · simp only [Act.put, List.setIfInBounds_toArray, List.set_cons_zero, List.set_cons_succ, i64_w, i32_w]
              rfl
            refine pure_ (i := 14) (N := some 100) (v := ?_) (a' := ?_) #[true, true, true, true, true, true, true, true, true, true, true, true, true, true, true, false, false, false, false, false, false, false, false, false, false, false, false, false, false, false, false, false, false, false, false, false, false, false, false, false, false] rfl rfl (by kernel_rfl) (fun _ _ _ h => h) (Or.inl ⟨by rfl, ?_⟩) ?_ ?_
            rotate_left
            · intro w'
              go_simp
              with_reducible rfl
            rotate_left
            · simp only [Act.put, List.setIfInBounds_toArray, List.set_cons_zero, List.set_cons_succ, i64_w, i32_w]
              rfl
            refine pure_ (i := 15) (N := some 101) (v := ?_) (a' := ?_) #[true, true, true, true, true, true, true, true, true, true, true, true, true, true, true, true, false, false, false, false, false, false, false, false, false, false, false, false, false, false, false, false, false, false, false, false, false, false, false, false, false] rfl rfl (by kernel_rfl) (fun _ _ _ h => h) (Or.inl ⟨by rfl, ?_⟩) ?_ ?_
            rotate_left
            · intro w'
              go_simp
              with_reducible rfl
            rotate_left
            · simp only [Act.put, List.setIfInBounds_toArray, List.set_cons_zero, List.set_cons_succ, i64_w, i32_w]
              rfl
            refine pure_ (i := 16) (N := some 102) (v := ?_) (a' := ?_) #[true, true, true, true, true, true, true, true, true, true, true, true, true, true, true, true, true, false, false, false, false, false, false, false, false, false, false, false, false, false, false, false, false, false, false, false, false, false, false, false, false] rfl rfl (by kernel_rfl) (fun _ _ _ h => h) (Or.inl ⟨by rfl, ?_⟩) ?_ ?_
            rotate_left
            · intro w'
              go_simp
              with_reducible rfl
            rotate_left
            · simp only [Act.put, List.setIfInBounds_toArray, List.set_cons_zero, List.set_cons_succ, i64_w, i32_w]
              rfl
            refine pure_ (i := 17) (N := some 103) (v := ?_) (a' := ?_) #[true, true, true, true, true, true, true, true, true, true, true, true, true, true, true, true, true, true, false, false, false, false, false, false, false, false, false, false, false, false, false, false, false, false, false, false, false, false, false, false, false] rfl rfl (by kernel_rfl) (fun _ _ _ h => h) (Or.inl ⟨by rfl, ?_⟩) ?_ ?_
            rotate_left
            · intro w'
              go_simp
              with_reducible rfl
            rotate_left
            · simp only [Act.put, List.setIfInBounds_toArray, List.set_cons_zero, List.set_cons_succ, i64_w, i32_w]
              rfl
            refine pure_ (i := 18) (N := some 104) (v := ?_) (a' := ?_) #[true, true, true, true, true, true, true, true, true, true, true, true, true, true, true, true, true, true, true, false, false, false, false, false, false, false, false, false, false, false, false, false, false, false, false, false, false, false, false, false, false] rfl rfl (by kernel_rfl) (fun _ _ _ h => h) (Or.inl ⟨by rfl, ?_⟩) ?_ ?_
            rotate_left
            · intro w'
              go_simp
              with_reducible rfl
            rotate_left
            · simp only [Act.put, List.setIfInBounds_toArray, List.set_cons_zero, List.set_cons_succ, i64_w, i32_w]
              rfl
            refine pure_ (i := 19) (N := some 105) (v := ?_) (a' := ?_) #[true, true, true, true, true, true, true, true, true, true, true, true, true, true, true, true, true, true, true, true, false, false, false, false, false, false, false, false, false, false, false, false, false, false, false, false, false, false, false, false, false] rfl rfl (by kernel_rfl) (fun _ _ _ h => h) (Or.inl ⟨by rfl, ?_⟩) ?_ ?_
            rotate_left
            · intro w'
              go_simp
              with_reducible rfl
            rotate_left
            · simp only [Act.put, List.setIfInBounds_toArray, List.set_cons_zero, List.set_cons_succ, i64_w, i32_w]
              rfl
            refine pure_ (i := 20) (N := some 106) (v := ?_) (a' := ?_) #[true, true, true, true, true, true, true, true, true, true, true, true, true, true, true, true, true, true, true, true, true, false, false, false, false, false, false, false, false, false, false, false, false, false, false, false, false, false, false, false, false] rfl rfl (by kernel_rfl) (fun _ _ _ h => h) (Or.inl ⟨by rfl, ?_⟩) ?_ ?_
            rotate_left
            · intro w'
              go_simp
              with_reducible rfl
            rotate_left
            · simp only [Act.put, List.setIfInBounds_toArray, List.set_cons_zero, List.set_cons_succ, i64_w, i32_w]
              rfl
            refine pure_ (i := 21) (N := some 107) (v := ?_) (a' := ?_) #[true, true, true, true, true, true, true, true, true, true, true, true, true, true, true, true, true, true, true, true, true, true, false, false, false, false, false, false, false, false, false, false, false, false, false, false, false, false, false, false, false] rfl rfl (by kernel_rfl) (fun _ _ _ h => h) (Or.inl ⟨by rfl, ?_⟩) ?_ ?_
            rotate_left
            · intro w'
              go_simp
              with_reducible rfl
            rotate_left
            · simp only [Act.put, List.setIfInBounds_toArray, List.set_cons_zero, List.set_cons_succ, i64_w, i32_w]
              rfl
            refine pure_ (i := 22) (N := some 108) (v := ?_) (a' := ?_) #[true, true, true, true, true, true, true, true, true, true, true, true, true, true, true, true, true, true, true, true, true, true, true, false, false, false, false, false, false, false, false, false, false, false, false, false, false, false, false, false, false] rfl rfl (by kernel_rfl) (fun _ _ _ h => h) (Or.inl ⟨by rfl, ?_⟩) ?_ ?_
            rotate_left
            · intro w'
              go_simp
              with_reducible rfl
            rotate_left
            · simp only [Act.put, List.setIfInBounds_toArray, List.set_cons_zero, List.set_cons_succ, i64_w, i32_w]
              rfl
            refine pure_ (i := 23) (N := some 109) (v := ?_) (a' := ?_) #[true, true, true, true, true, true, true, true, true, true, true, true, true, true, true, true, true, true, true, true, true, true, true, true, false, false, false, false, false, false, false, false, false, false, false, false, false, false, false, false, false] rfl rfl (by kernel_rfl) (fun _ _ _ h => h) (Or.inl ⟨by rfl, ?_⟩) ?_ ?_
            rotate_left
            · intro w'
              go_simp
              with_reducible rfl
            rotate_left
            · simp only [Act.put, List.setIfInBounds_toArray, List.set_cons_zero, List.set_cons_succ, i64_w, i32_w]
              rfl
            refine pure_ (i := 24) (N := some 110) (v := ?_) (a' := ?_) #[true, true, true, true, true, true, true, true, true, true, true, true, true, true, true, true, true, true, true, true, true, true, true, true, true, false, false, false, false, false, false, false, false, false, false, false, false, false, false, false, false] rfl rfl (by kernel_rfl) (fun _ _ _ h => h) (Or.inl ⟨by rfl, ?_⟩) ?_ ?_
            rotate_left
            · intro w'
              go_simp
              with_reducible rfl
            rotate_left
            · simp only [Act.put, List.setIfInBounds_toArray, List.set_cons_zero, List.set_cons_succ, i64_w, i32_w]
              rfl
            refine pure_ (i := 25) (N := some 111) (v := undef) (a' := ?_) #[true, true, true, true, true, true, true, true, true, true, true, true, true, true, true, true, true, true, true, true, true, true, true, true, true, true, false, false, false, false, false, false, false, false, false, false, false, false, false, false, false] rfl rfl (by kernel_rfl) (fun _ _ _ h => h) (Or.inr ⟨by rfl, rfl⟩) ?_ ?_
            rotate_left
            · simp only [Act.put, List.setIfInBounds_toArray, List.set_cons_zero, List.set_cons_succ, i64_w, i32_w]
              rfl
            refine pure_ (i := 26) (N := some 112) (v := undef) (a' := ?_) #[true, true, true, true, true, true, true, true, true, true, true, true, true, true, true, true, true, true, true, true, true, true, true, true, true, true, true, false, false, false, false, false, false, false, false, false, false, false, false, false, false] rfl rfl (by kernel_rfl) (fun _ _ _ h => h) (Or.inr ⟨by rfl, rfl⟩) ?_ ?_
            rotate_left
            · simp only [Act.put, List.setIfInBounds_toArray, List.set_cons_zero, List.set_cons_succ, i64_w, i32_w]
              rfl
            refine pure_ (i := 27) (N := some 113) (v := undef) (a' := ?_) #[true, true, true, true, true, true, true, true, true, true, true, true, true, true, true, true, true, true, true, true, true, true, true, true, true, true, true, true, false, false, false, false, false, false, false, false, false, false, false, false, false] rfl rfl (by kernel_rfl) (fun _ _ _ h => h) (Or.inr ⟨by rfl, rfl⟩) ?_ ?_
            rotate_left
            · simp only [Act.put, List.setIfInBounds_toArray, List.set_cons_zero, List.set_cons_succ, i64_w, i32_w]
              rfl
            refine pure_ (i := 28) (N := some 114) (v := undef) (a' := ?_) #[true, true, true, true, true, true, true, true, true, true, true, true, true, true, true, true, true, true, true, true, true, true, true, true, true, true, true, true, true, false, false, false, false, false, false, false, false, false, false, false, false] rfl rfl (by kernel_rfl) (fun _ _ _ h => h) (Or.inr ⟨by rfl, rfl⟩) ?_ ?_
            rotate_left
            · simp only [Act.put, List.setIfInBounds_toArray, List.set_cons_zero, List.set_cons_succ, i64_w, i32_w]
              rfl
            refine pure_ (i := 29) (N := some 115) (v := undef) (a' := ?_) #[true, true, true, true, true, true, true, true, true, true, true, true, true, true, true, true, true, true, true, true, true, true, true, true, true, true, true, true, true, true, false, false, false, false, false, false, false, false, false, false, false] rfl rfl (by kernel_rfl) (fun _ _ _ h => h) (Or.inr ⟨by rfl, rfl⟩) ?_ ?_
            rotate_left
            · simp only [Act.put, List.setIfInBounds_toArray, List.set_cons_zero, List.set_cons_succ, i64_w, i32_w]
              rfl
            refine pure_ (i := 30) (N := some 116) (v := undef) (a' := ?_) #[true, true, true, true, true, true, true, true, true, true, true, true, true, true, true, true, true, true, true, true, true, true, true, true, true, true, true, true, true, true, true, false, false, false, false, false, false, false, false, false, false] rfl rfl (by kernel_rfl) (fun _ _ _ h => h) (Or.inr ⟨by rfl, rfl⟩) ?_ ?_
            rotate_left
            · simp only [Act.put, List.setIfInBounds_toArray, List.set_cons_zero, List.set_cons_succ, i64_w, i32_w]
              rfl
            refine pure_ (i := 31) (N := some 117) (v := undef) (a' := ?_) #[true, true, true, true, true, true, true, true, true, true, true, true, true, true, true, true, true, true, true, true, true, true, true, true, true, true, true, true, true, true, true, true, false, false, false, false, false, false, false, false, false] rfl rfl (by kernel_rfl) (fun _ _ _ h => h) (Or.inr ⟨by rfl, rfl⟩) ?_ ?_
            rotate_left
            · simp only [Act.put, List.setIfInBounds_toArray, List.set_cons_zero, List.set_cons_succ, i64_w, i32_w]
              rfl
            refine pure_ (i := 32) (N := some 118) (v := undef) (a' := ?_) #[true, true, true, true, true, true, true, true, true, true, true, true, true, true, true, true, true, true, true, true, true, true, true, true, true, true, true, true, true, true, true, true, true, false, false, false, false, false, false, false, false] rfl rfl (by kernel_rfl) (fun _ _ _ h => h) (Or.inr ⟨by rfl, rfl⟩) ?_ ?_
            rotate_left
            · simp only [Act.put, List.setIfInBounds_toArray, List.set_cons_zero, List.set_cons_succ, i64_w, i32_w]
              rfl
            refine pure_ (i := 33) (N := some 119) (v := undef) (a' := ?_) #[true, true, true, true, true, true, true, true, true, true, true, true, true, true, true, true, true, true, true, true, true, true, true, true, true, true, true, true, true, true, true, true, true, true, false, false, false, false, false, false, false] rfl rfl (by kernel_rfl) (fun _ _ _ h => h) (Or.inr ⟨by rfl, rfl⟩) ?_ ?_
            rotate_left
            · simp only [Act.put, List.setIfInBounds_toArray, List.set_cons_zero, List.set_cons_succ, i64_w, i32_w]
              rfl
            refine pure_ (i := 34) (N := some 120) (v := undef) (a' := ?_) #[true, true, true, true, true, true, true, true, true, true, true, true, true, true, true, true, true, true, true, true, true, true, true, true, true, true, true, true, true, true, true, true, true, true, true, false, false, false, false, false, false] rfl rfl (by kernel_rfl) (fun _ _ _ h => h) (Or.inr ⟨by rfl, rfl⟩) ?_ ?_
            rotate_left
            · simp only [Act.put, List.setIfInBounds_toArray, List.set_cons_zero, List.set_cons_succ, i64_w, i32_w]
              rfl
            refine pure_ (i := 35) (N := some 121) (v := undef) (a' := ?_) #[true, true, true, true, true, true, true, true, true, true, true, true, true, true, true, true, true, true, true, true, true, true, true, true, true, true, true, true, true, true, true, true, true, true, true, true, false, false, false, false, false] rfl rfl (by kernel_rfl) (fun _ _ _ h => h) (Or.inr ⟨by rfl, rfl⟩) ?_ ?_
            rotate_left
            · simp only [Act.put, List.setIfInBounds_toArray, List.set_cons_zero, List.set_cons_succ, i64_w, i32_w]
              rfl
            refine pure_ (i := 36) (N := some 122) (v := undef) (a' := ?_) #[true, true, true, true, true, true, true, true, true, true, true, true, true, true, true, true, true, true, true, true, true, true, true, true, true, true, true, true, true, true, true, true, true, true, true, true, true, false, false, false, false] rfl rfl (by kernel_rfl) (fun _ _ _ h => h) (Or.inr ⟨by rfl, rfl⟩) ?_ ?_
            rotate_left
            · simp only [Act.put, List.setIfInBounds_toArray, List.set_cons_zero, List.set_cons_succ, i64_w, i32_w]
              rfl
            refine pure_ (i := 37) (N := some 123) (v := undef) (a' := ?_) #[true, true, true, true, true, true, true, true, true, true, true, true, true, true, true, true, true, true, true, true, true, true, true, true, true, true, true, true, true, true, true, true, true, true, true, true, true, true, false, false, false] rfl rfl (by kernel_rfl) (fun _ _ _ h => h) (Or.inr ⟨by rfl, rfl⟩) ?_ ?_
            rotate_left
            · simp only [Act.put, List.setIfInBounds_toArray, List.set_cons_zero, List.set_cons_succ, i64_w, i32_w]
              rfl
            refine pure_ (i := 38) (N := some 124) (v := undef) (a' := ?_) #[true, true, true, true, true, true, true, true, true, true, true, true, true, true, true, true, true, true, true, true, true, true, true, true, true, true, true, true, true, true, true, true, true, true, true, true, true, true, true, false, false] rfl rfl (by kernel_rfl) (fun _ _ _ h => h) (Or.inr ⟨by rfl, rfl⟩) ?_ ?_
            rotate_left
            · simp only [Act.put, List.setIfInBounds_toArray, List.set_cons_zero, List.set_cons_succ, i64_w, i32_w]
              rfl
            refine pure_ (i := 39) (N := some 125) (v := ?_) (a' := ?_) #[true, true, true, true, true, true, true, true, true, true, true, true, true, true, true, true, true, true, true, true, true, true, true, true, true, true, true, true, true, true, true, true, true, true, true, true, true, true, true, true, false] rfl rfl (by kernel_rfl) (fun _ _ _ h => h) (Or.inl ⟨by rfl, ?_⟩) ?_ ?_
            rotate_left
            · intro w'
              go_simp
              with_reducible rfl
            rotate_left
            · simp only [Act.put, List.setIfInBounds_toArray, List.set_cons_zero, List.set_cons_succ, i64_w, i32_w]
              rfl
            refine pure_ (i := 40) (N := some 126) (v := ?_) (a' := ?_) #[true, true, true, true, true, true, true, true, true, true, true, true, true, true, true, true, true, true, true, true, true, true, true, true, true, true, true, true, true, true, true, true, true, true, true, true, true, true, true, true, true] rfl rfl (by kernel_rfl) (fun _ _ _ h => h) (Or.inl ⟨by rfl, ?_⟩) ?_ ?_
            rotate_left
            · intro w'
              go_simp
              with_reducible rfl
            rotate_left
            · simp only [Act.put, List.setIfInBounds_toArray, List.set_cons_zero, List.set_cons_succ, i64_w, i32_w]
              rfl
            refine done_ (by kernel_rfl) ?_
            clear lc2_0 lf2_0 lc2_1 lf2_1 lc2_2 lf2_2 lc2_3 lf2_3 lc2_4 lf2_4 lc2_5 lf2_5 lc2_6 lf2_6 lc2_7 lf2_7 lc2_8 lf2_8 lc2_9 lf2_9 lc2_10 lf2_10
            have BK_bon : Aside0 (wb.drew.heap[bo]? = some (.cells #[.int .i64 call, .int .i64 kind, .int .i64 addr, .int .i64 val, .int .i64 f, .int .i64 a, .int .i64 c, .slice A0 m0 cc0, .int .i64 t, .int .i64 n, .int .i64 o] 42 (0, 0))) := ⟨blk_below BK_bo.out HD.out⟩
            have OB_sn : Aside0 (IsSlv 77 wb.drew g R (X)) := ⟨OB_s.out.below HD.out⟩
            have OB_rn : Aside0 (IsSlv 51 wb.drew g2 R2 (X)) := ⟨OB_r.out.below HD.out⟩
            have HV_scn : Aside0 (RowE k42 (fun k => w.heap.size ≤ k) wb.drew (some ad) ml xs) := ⟨HV_sc.out.step (.of_below HD.out)⟩
            have HV_qn : Aside0 (Ever (fun k => w.heap.size ≤ k) wb.drew (fun W => Kd.C (Kd.int .i64) W (A0) (v).length (v))) := ⟨HV_q.out.step (.of_below HD.out)⟩
            have XBn : Aside0 (Below w.heap.size w wb.drew) := ⟨below_step XB.out HD.out⟩
            clear BK_bo OB_s OB_r HV_sc HV_q XB
            have BK_bo := BK_bon
            have OB_s := OB_sn
            have OB_r := OB_rn
            have HV_sc := HV_scn
            have HV_q := HV_qn
            have XB := XBn
            clear BK_bon OB_sn OB_rn HV_scn HV_qn XBn
            go_wp2_with (fail)
            go_roundw
            case rel => exact ⟨j + 1, X, by have := HJ.out; omega, relb HJ.out HML.out, HX, OB_s, OB_r, HV_sc, XB⟩
            case measure => exact measb HJ.out HML.out
    · have t1 : decide (j < ml) = false := decide_eq_false hlt
      have t2 : decide ((j : Int) < (ml : Int)) = false := decide_eq_false (by omega)
      go_wp2_with (first | (go_at_call 16; refine (awake_c _).mono ?_; rintro e wb ⟨rfl, HBc⟩; have OB_sn : Aside0 (IsSlv 77 wb g R (X)) := ⟨OB_s.out.below HBc⟩; have OB_rn : Aside0 (IsSlv 51 wb g2 R2 (X)) := ⟨OB_r.out.below HBc⟩; have HV_scn : Aside0 (RowE k42 (fun k => w.heap.size ≤ k) wb (As) ml xs) := ⟨HV_sc.out.step (.of_below HBc)⟩; have XBn : Aside0 (Below w.heap.size w wb) := ⟨below_step XB.out HBc⟩; clear OB_s OB_r HV_sc XB; have OB_s := OB_sn; have OB_r := OB_rn; have HV_sc := HV_scn; have XB := XBn; clear OB_sn OB_rn HV_scn XBn; clear HBc) | (go_at_call 26; refine (all_c OB_s.out OB_r.out).mono ?_; rintro e w' ⟨rfl, rfl⟩; ))
      go_ret
      exact ⟨rfl, XB.out⟩
theorem does_walk (bi wo : Int) (As : Option Addr) (cs : Nat) (xs : List Opc) (w : World) (wbi : -9223372036854775808 ≤ bi ∧ bi ≤ 9223372036854775807) (wwo : -9223372036854775808 ≤ wo ∧ wo ≤ 9223372036854775807) (hps : Aside0 (Kd.C k42 w As xs.length xs)) (hls : Aside0 (xs.length ≤ cs)) (wf : True) : Calls Try.prog 4 #[.int .i64 bi, .int .i64 wo, .slice As xs.length cs] w fun e w' => e = .returned (.bool true) ∧ Below w.heap.size w w' := by
  have hrw : RowE k42 (fun k => w.heap.size ≤ k) w As xs.length xs := RowE.old hps.out (fun k h => h)
  clear hps hls wf
  by_cases h1 : 200 < bi ∧ bi ≤ 65536
  · exact does_e1 bi wo As cs xs.length w h1.1 h1.2
  by_cases h2 : 200 < wo ∧ wo ≤ 65536
  · by_cases h3 : bi ≤ 200
    · exact does_e2 bi wo As cs xs.length w h3 h2.1 h2.2
    · exact does_e3 bi wo As cs xs.length w (by omega) h2.1 h2.2
  have few : ∃ b, Calls Try.prog 18 #[.slice As xs.length cs] w fun e w' => e = .returned (.bool b) ∧ w = w' := fewB hrw
  obtain ⟨b, hf⟩ := few
  cases b
  · by_cases h3 : bi ≤ 200
    · by_cases h4 : wo ≤ 200
      · exact does_fss bi wo As cs xs.length w h3 h4 hf
      · exact does_fsb bi wo As cs xs.length w h3 (by omega) hf
    · by_cases h4 : wo ≤ 200
      · exact does_fbs bi wo As cs xs.length w (by omega) h4 hf
      · exact does_fbb bi wo As cs xs.length w (by omega) (by omega) hf
  · by_cases hn : 0 ≤ bi ∧ bi ≤ 65536 ∧ 0 ≤ wo ∧ wo ≤ 65536
    · obtain ⟨bi, rfl⟩ := Int.eq_ofNat_of_zero_le hn.1
      obtain ⟨wo, rfl⟩ := Int.eq_ofNat_of_zero_le hn.2.2.1
      exact does_good bi wo As cs xs xs.length w hrw (by omega) (by omega) hf
    · by_cases h3 : bi ≤ 200
      · by_cases h4 : wo ≤ 200
        · exact does_nss bi wo As cs xs.length w h3 h4 hn hf
        · exact does_nsb bi wo As cs xs.length w h3 (by omega) hn hf
      · by_cases h4 : wo ≤ 200
        · exact does_nbs bi wo As cs xs.length w (by omega) h4 hn hf
        · exact does_nbb bi wo As cs xs.length w (by omega) (by omega) hn hf
end Go.Proofs.Ytocicifgglkaeaa.HandSDoes

/- The contract of the reference's Split. (printed by gen_rframes.py) -/
import Derived.Test.YtabjlanomebonaaHandGood
import Derived.Test.YtabjlanomebonaaPBx7
import Derived.Test.YtabjlanomebonaaPBx4
import Derived.Test.YtabjlanomebonaaPBx13
import Derived.Test.YtabjlanomebonaaAwakeA
namespace Go.Proofs.Ytabjlanomebonaa.HandRF
open Go.RowKit Go.Proofs.YtabjlanomebonaaW.PrintWords Go.Proofs.YtabjlanomebonaaW.PrintLast Go.Proofs.YtabjlanomebonaaW.PrintMore Go.Proofs.Ytabjlanomebonaa.Core Go.Proofs.Ytabjlanomebonaa.Ext Go.Proofs.Ytabjlanomebonaa.ExtC Go.Proofs.Ytabjlanomebonaa.PB Go.Proofs.Ytabjlanomebonaa.Math Go.Proofs.Ytabjlanomebonaa.HandGood
set_option linter.unusedVariables false
set_option linter.unusedSimpArgs false
/-- What a frame is split into. -/
def splitV (l : List Int) : Int × List Int × Int :=
  if l.length < 4 then (0, [], 7) else if 256 < l.length then (0, [], 2) else if crcN 65535 l ≠ 0 then (0, [], 20)
  else if 247 < rd l 0 then (0, [], 1) else (rd l 0, (l.take (l.length - 2)).drop 1, 0)
theorem rd_take {l : List Int} {n : Nat} (h : 0 < n) : rd (l.take n) 0 = rd l 0 := by
  unfold rd
  rw [List.getD_eq_getElem?_getD, List.getD_eq_getElem?_getD, List.getElem?_take, if_pos (by simpa using h)]
theorem split_f {l : List Int} (hb : Bytes l) (hl : l.length ≤ 600) : rtu_Split.f l = some (splitV l) := by
  unfold rtu_Split.f splitV
  by_cases h1 : l.length < 4
  · exact (if_pos (by omega)).trans (by rw [if_pos h1])
  refine (if_neg (by omega)).trans ?_
  rw [if_neg h1]
  by_cases h2 : 256 < l.length
  · exact (if_pos (by omega)).trans (by rw [if_pos h2])
  refine (if_neg (by omega)).trans ?_
  rw [if_neg h2]
  by_cases h3 : crcN 65535 l ≠ 0
  · rw [if_pos h3]
    refine HandGood.bind_of (whole_no hb (by omega) (fun a => h3 a.2)) ?_
    exact if_neg (show ¬ (20 : Int) = 0 by omega)
  rw [if_neg h3]
  have h3' : crcN 65535 l = 0 := Classical.byContradiction h3
  refine HandGood.bind_of (whole_yes hb (by omega) ⟨by omega, h3'⟩) ?_
  have hx := rd_b hb 0
  have hlen : (l.take (l.length - 2)).length = l.length - 2 := by rw [List.length_take]; omega
  have hr : wrap64 (rd (l.take (l.length - 2)) 0) = rd l 0 := by rw [rd_take (by omega)]; unfold wrap64; omega
  refine (if_pos rfl).trans ((if_pos (by show 0 < (((l.take (l.length - 2)).length : Nat) : Int); omega)).trans ?_)
  show (if wrap64 (rd (l.take (l.length - 2)) 0) > 247 then _ else _) = _
  rw [hr]
  by_cases h4 : 247 < rd l 0
  · rw [if_pos h4, if_pos h4]
  · rw [if_neg h4, if_neg h4]
    exact if_pos (by show 1 ≤ (((l.take (l.length - 2)).length : Nat) : Int); omega)
set_option maxHeartbeats 4000000 in
set_option maxRecDepth 100000 in
theorem rs_1 (A : Option Addr) (c : Nat) (l : List Int) (w : World) (hV : Kd.C (Kd.int .u8) w A l.length l) (hc : l.length ≤ c) (hb : Bytes l) (hl : l.length ≤ 600) (h1 : l.length < 4) :
    Calls Try.prog 31 #[.slice A l.length c] w fun e w' => ∃ A' c', e = .returned (.tuple #[.int .i64 (0), .slice A' (([] : List Int)).length c', .int .i64 7]) ∧ Kd.C (Kd.int .u8) w' A' (([] : List Int)).length (([] : List Int)) ∧ (([] : List Int)).length ≤ c' ∧ Below w.heap.size w w' := by
  have HV := Aside0.mk hV; have HC := Aside0.mk hc; have HBY := Aside0.mk hb; have HL := Aside0.mk hl
  have t1 : decide (l.length < 4) = true := decide_eq_true (by omega)
  have t1' : decide ((l.length : Int) < 4) = true := decide_eq_true (by omega)
  clear hV hc hb hl h1
  go_enter Try.func31, Try.ntmps31
  go_wp2
  go_ret3
  exact ⟨none, 0, rfl, Kd.C_nil _ _, Nat.le_refl _, Below.refl _ _⟩
set_option maxHeartbeats 4000000 in
set_option maxRecDepth 100000 in
theorem rs_2 (A : Option Addr) (c : Nat) (l : List Int) (w : World) (hV : Kd.C (Kd.int .u8) w A l.length l) (hc : l.length ≤ c) (hb : Bytes l) (hl : l.length ≤ 600) (h1 : 256 < l.length) :
    Calls Try.prog 31 #[.slice A l.length c] w fun e w' => ∃ A' c', e = .returned (.tuple #[.int .i64 (0), .slice A' (([] : List Int)).length c', .int .i64 2]) ∧ Kd.C (Kd.int .u8) w' A' (([] : List Int)).length (([] : List Int)) ∧ (([] : List Int)).length ≤ c' ∧ Below w.heap.size w w' := by
  have HV := Aside0.mk hV; have HC := Aside0.mk hc; have HBY := Aside0.mk hb; have HL := Aside0.mk hl
  have t1 : decide (l.length < 4) = false := decide_eq_false (by omega)
  have t1' : decide ((l.length : Int) < 4) = false := decide_eq_false (by omega)
  have t2 : decide (256 < l.length) = true := decide_eq_true (by omega)
  have t2' : decide (256 < (l.length : Int)) = true := decide_eq_true (by omega)
  clear hV hc hb hl h1
  go_enter Try.func31, Try.ntmps31
  go_wp2
  go_ret3
  exact ⟨none, 0, rfl, Kd.C_nil _ _, Nat.le_refl _, Below.refl _ _⟩
set_option maxHeartbeats 4000000 in
set_option maxRecDepth 100000 in
theorem rs_3 (A : Option Addr) (c : Nat) (l : List Int) (w : World) (hV : Kd.C (Kd.int .u8) w A l.length l) (hc : l.length ≤ c) (hb : Bytes l) (hl : l.length ≤ 600) (h0 : 4 ≤ l.length) (h1 : l.length ≤ 256) (h : crcN 65535 l ≠ 0) :
    Calls Try.prog 31 #[.slice A l.length c] w fun e w' => ∃ A' c', e = .returned (.tuple #[.int .i64 (0), .slice A' (([] : List Int)).length c', .int .i64 20]) ∧ Kd.C (Kd.int .u8) w' A' (([] : List Int)).length (([] : List Int)) ∧ (([] : List Int)).length ≤ c' ∧ Below w.heap.size w w' := by
  have HV := Aside0.mk hV; have HC := Aside0.mk hc; have HBY := Aside0.mk hb; have HL := Aside0.mk hl
  have t1 : decide (l.length < 4) = false := decide_eq_false (by omega)
  have t1' : decide ((l.length : Int) < 4) = false := decide_eq_false (by omega)
  have t2 : decide (256 < l.length) = false := decide_eq_false (by omega)
  have t2' : decide (256 < (l.length : Int)) = false := decide_eq_false (by omega)
  have HG : Aside0 (decide (2 ≤ l.length ∧ crcN 65535 l = 0) = false) := ⟨decide_eq_false (fun a => h a.2)⟩
  clear hV hc hb hl h0 h1 h
  go_enter Try.func31, Try.ntmps31
  go_wp2_with (go_at_call 42; refine (HandGood.refgood A c l HBY.out HC.out HL.out _ HV.out).mono ?_; rw [HG.out]; rintro e w1 ⟨rfl, HB⟩; have HB := Aside0.mk HB; have HV1 := Aside0.mk (Kd.C_below HV.out HB.out))
  go_ret3
  exact ⟨none, 0, rfl, Kd.C_nil _ _, Nat.le_refl _, HB.out⟩
set_option maxHeartbeats 4000000 in
set_option maxRecDepth 100000 in
theorem rs_4 (A : Option Addr) (c : Nat) (l : List Int) (w : World) (hV : Kd.C (Kd.int .u8) w A l.length l) (hc : l.length ≤ c) (hb : Bytes l) (hl : l.length ≤ 600) (h0 : 4 ≤ l.length) (h1 : l.length ≤ 256) (h : crcN 65535 l = 0) (hu : 247 < rd l 0) :
    Calls Try.prog 31 #[.slice A l.length c] w fun e w' => ∃ A' c', e = .returned (.tuple #[.int .i64 (0), .slice A' (([] : List Int)).length c', .int .i64 1]) ∧ Kd.C (Kd.int .u8) w' A' (([] : List Int)).length (([] : List Int)) ∧ (([] : List Int)).length ≤ c' ∧ Below w.heap.size w w' := by
  have HV := Aside0.mk hV; have HC := Aside0.mk hc; have HBY := Aside0.mk hb; have HL := Aside0.mk hl
  have t1 : decide (l.length < 4) = false := decide_eq_false (by omega)
  have t1' : decide ((l.length : Int) < 4) = false := decide_eq_false (by omega)
  have t2 : decide (256 < l.length) = false := decide_eq_false (by omega)
  have t2' : decide (256 < (l.length : Int)) = false := decide_eq_false (by omega)
  have HG : Aside0 (decide (2 ≤ l.length ∧ crcN 65535 l = 0) = true) := ⟨decide_eq_true ⟨by omega, h⟩⟩
  obtain ⟨ad, rfl, hx0⟩ := Kd.at_int hV 0 (by omega) (by omega)
  have hru := rd_b hb 0
  have HP : Aside0 (4 ≤ l.length) := ⟨h0⟩
  have p0 : (0 : Int) < (l.length : Int) := by omega
  have p0n : (0 < l.length) = True := eq_true (by omega)
  obtain ⟨u, hu0⟩ : ∃ u, u = rd l 0 := ⟨_, rfl⟩
  rw [← hu0] at hu hru
  have HU : Aside0 (rd l 0 = u) := ⟨hu0.symm⟩
  have HCL := Aside0.mk (show ∀ W : World, Below w.heap.size w W → W.cell? ad = some (.int .u8 u) from fun W hB => by obtain ⟨a_, e_, h_⟩ := Kd.at_int (Kd.C_below HV.out hB) 0 (by have := HP.out; omega) (by have := HP.out; omega); cases e_; rw [HU.out] at h_; simpa [Go.Addr.add] using h_)
  have t3 : decide (247 < u) = true := decide_eq_true hu
  clear hV hc hb hl h0 h1 h hx0 hu0 hu
  go_enter Try.func31, Try.ntmps31
  go_wp2_with (go_at_call 42; refine (HandGood.refgood (some ad) c l HBY.out HC.out HL.out _ HV.out).mono ?_; rw [HG.out]; rintro e w1 ⟨rfl, HB⟩; have HB := Aside0.mk HB; have HV1 := Aside0.mk (Kd.C_below HV.out HB.out); have hcl := HCL.out _ HB.out)
  go_ret3
  exact ⟨none, 0, rfl, Kd.C_nil _ _, Nat.le_refl _, HB.out⟩
set_option maxHeartbeats 4000000 in
set_option maxRecDepth 100000 in
theorem rs_5 (A : Option Addr) (c : Nat) (l : List Int) (w : World) (hV : Kd.C (Kd.int .u8) w A l.length l) (hc : l.length ≤ c) (hb : Bytes l) (hl : l.length ≤ 600) (h0 : 4 ≤ l.length) (h1 : l.length ≤ 256) (h : crcN 65535 l = 0) (hu : rd l 0 ≤ 247) :
    Calls Try.prog 31 #[.slice A l.length c] w fun e w' => ∃ A' c', e = .returned (.tuple #[.int .i64 (rd l 0), .slice A' ((l.take (l.length - 2)).drop 1).length c', .int .i64 0]) ∧ Kd.C (Kd.int .u8) w' A' ((l.take (l.length - 2)).drop 1).length ((l.take (l.length - 2)).drop 1) ∧ ((l.take (l.length - 2)).drop 1).length ≤ c' ∧ Below w.heap.size w w' := by
  have HV := Aside0.mk hV; have HC := Aside0.mk hc; have HBY := Aside0.mk hb; have HL := Aside0.mk hl
  have t1 : decide (l.length < 4) = false := decide_eq_false (by omega)
  have t1' : decide ((l.length : Int) < 4) = false := decide_eq_false (by omega)
  have t2 : decide (256 < l.length) = false := decide_eq_false (by omega)
  have t2' : decide (256 < (l.length : Int)) = false := decide_eq_false (by omega)
  have HG : Aside0 (decide (2 ≤ l.length ∧ crcN 65535 l = 0) = true) := ⟨decide_eq_true ⟨by omega, h⟩⟩
  obtain ⟨ad, rfl, hx0⟩ := Kd.at_int hV 0 (by omega) (by omega)
  have hru := rd_b hb 0
  have HP : Aside0 (4 ≤ l.length) := ⟨h0⟩
  have p0 : (0 : Int) < (l.length : Int) := by omega
  have p0n : (0 < l.length) = True := eq_true (by omega)
  obtain ⟨u, hu0⟩ : ∃ u, u = rd l 0 := ⟨_, rfl⟩
  rw [← hu0] at hu hru ⊢
  have HU : Aside0 (rd l 0 = u) := ⟨hu0.symm⟩
  have HCL := Aside0.mk (show ∀ W : World, Below w.heap.size w W → W.cell? ad = some (.int .u8 u) from fun W hB => by obtain ⟨a_, e_, h_⟩ := Kd.at_int (Kd.C_below HV.out hB) 0 (by have := HP.out; omega) (by have := HP.out; omega); cases e_; rw [HU.out] at h_; simpa [Go.Addr.add] using h_)
  obtain ⟨i0, hi0, hz0_, hz1_, hz2_⟩ := info_parts Ext.info5
  obtain ⟨A2, hcut, hcutr, hcutl⟩ := print_mid_int (P := Try.prog) (k := .u8) 22 5 Try.underlying22 hi0 hz1_ (some ad) c l 1 ((l.length : Int) - 2) (by omega) (by omega) (by omega) hc
  rw [show ((l.length : Int) - 2).toNat = l.length - 2 from by omega, show (1 : Int).toNat = 1 from rfl] at hcut hcutr hcutl; rw [← wrap64_id ((l.length : Int) - 2) (by omega) (by omega)] at hcut
  generalize (l.take (l.length - 2)).drop 1 = p at hcut hcutr hcutl ⊢
  have HPV : Aside0 (∀ W, Below w.heap.size w W → Kd.C (Kd.int .u8) W A2 p.length p) := ⟨fun W hB => Kd.C_of_reads (d := (0 : Int)) (h1 := fun _ => rfl) (hcutr W (Kd.reads_of_C (Kd.C_below HV.out hB)))⟩
  have HPC := Aside0.mk hcutl
  have t3 : decide (247 < u) = false := decide_eq_false (by omega)
  have hwu : wrap64 u = u := by unfold wrap64; omega
  have HWU := Aside0.mk hwu
  skip
  clear hV hc hb hl hx0 hu0 hcutr hcutl hi0 hz0_ hz1_ hz2_ hwu h
  go_enter Try.func31, Try.ntmps31
  go_upto_region 9 with (go_at_call 42; refine (HandGood.refgood (some ad) c l HBY.out HC.out HL.out _ HV.out).mono ?_; rw [HG.out]; rintro e w1 ⟨rfl, HB⟩; have HB := Aside0.mk HB; have HV1 := Aside0.mk (Kd.C_below HV.out HB.out); have hcl := HCL.out _ HB.out)
  refine start_ (n := 12) (S := fun W => W.cell? ad = some (.int .u8 u)) (ds := []) #[false, false, false, false, false, false, false, false, false, false, false, false] (by kernel_rfl) rfl rfl ?_ (fun hHeld => ?_)
  · exact HCL.out _ (below_drew1 HB.out)
  refine pure_ (i := 0) (N := some 19) (v := ?_) (a' := ?_) #[true, false, false, false, false, false, false, false, false, false, false, false] rfl rfl (by kernel_rfl) (fun _ _ _ h => h) (Or.inl ⟨by rfl, ?_⟩) ?_ ?_
  rotate_left
  · intro w'
    go_simp
    with_reducible rfl
  rotate_left
  · simp only [Act.put, List.setIfInBounds_toArray, List.set_cons_zero, List.set_cons_succ, i64_w, i32_w]
    rfl
  refine take_ (i := 1) (N := some 20) (v := ?_) (a' := ?_) #[true, true, false, false, false, false, false, false, false, false, false, false] rfl rfl (by kernel_rfl) (fun _ _ _ h => h) (Or.inl ⟨by rfl, ?_⟩) hHeld ?_ ?_
  rotate_left
  · rintro w' hS_
    go_simp
    with_reducible rfl
  rotate_left
  · simp only [Act.put, List.setIfInBounds_toArray, List.set_cons_zero, List.set_cons_succ, i64_w, i32_w]
    rfl
  refine take_ (i := 2) (N := some 21) (v := ?_) (a' := ?_) #[true, true, true, false, false, false, false, false, false, false, false, false] rfl rfl (by kernel_rfl) (fun _ _ _ h => h) (Or.inl ⟨by rfl, ?_⟩) hHeld ?_ ?_
  rotate_left
  · rintro w' hS_
    go_simp
    with_reducible rfl
  rotate_left
  · simp only [Act.put, List.setIfInBounds_toArray, List.set_cons_zero, List.set_cons_succ, i64_w, i32_w]
    rfl
  refine take_ (i := 3) (N := some 22) (v := ?_) (a' := ?_) #[true, true, true, true, false, false, false, false, false, false, false, false] rfl rfl (by kernel_rfl) (fun _ _ _ h => h) (Or.inl ⟨by rfl, ?_⟩) hHeld ?_ ?_
  rotate_left
  · rintro w' hS_
    go_simp
    with_reducible rfl
  rotate_left
  · simp only [Act.put, List.setIfInBounds_toArray, List.set_cons_zero, List.set_cons_succ, i64_w, i32_w]
    rfl
  refine pure_ (i := 4) (N := some 23) (v := ?_) (a' := ?_) #[true, true, true, true, true, false, false, false, false, false, false, false] rfl rfl (by kernel_rfl) (fun _ _ _ h => h) (Or.inl ⟨by rfl, ?_⟩) ?_ ?_
  rotate_left
  · intro w'
    go_simp
    with_reducible rfl
  rotate_left
  · simp only [Act.put, List.setIfInBounds_toArray, List.set_cons_zero, List.set_cons_succ, i64_w, i32_w]
    rfl
  refine pure_ (i := 5) (N := some 24) (v := ?_) (a' := ?_) #[true, true, true, true, true, true, false, false, false, false, false, false] rfl rfl (by kernel_rfl) (fun _ _ _ h => h) (Or.inl ⟨by rfl, ?_⟩) ?_ ?_
  rotate_left
  · intro w'
    go_simp
    with_reducible rfl
  rotate_left
  · simp only [Act.put, List.setIfInBounds_toArray, List.set_cons_zero, List.set_cons_succ, i64_w, i32_w]
    rfl
  refine pure_ (i := 6) (N := some 25) (v := ?_) (a' := ?_) #[true, true, true, true, true, true, true, false, false, false, false, false] rfl rfl (by kernel_rfl) (fun _ _ _ h => h) (Or.inl ⟨by rfl, ?_⟩) ?_ ?_
  rotate_left
  · intro w'
    go_simp
    with_reducible rfl
  rotate_left
  · simp only [Act.put, List.setIfInBounds_toArray, List.set_cons_zero, List.set_cons_succ, i64_w, i32_w]
    rfl
  refine pure_ (i := 7) (N := some 26) (v := ?_) (a' := ?_) #[true, true, true, true, true, true, true, true, false, false, false, false] rfl rfl (by kernel_rfl) (fun _ _ _ h => h) (Or.inl ⟨by rfl, ?_⟩) ?_ ?_
  rotate_left
  · intro w'
    go_simp
    with_reducible rfl
  rotate_left
  · simp only [Act.put, List.setIfInBounds_toArray, List.set_cons_zero, List.set_cons_succ, i64_w, i32_w]
    rfl
  refine take_ (i := 8) (N := some 27) (v := ?_) (a' := ?_) #[true, true, true, true, true, true, true, true, true, false, false, false] rfl rfl (by kernel_rfl) (fun _ _ _ h => h) (Or.inl ⟨by rfl, ?_⟩) hHeld ?_ ?_
  rotate_left
  · rintro w' hS_
    go_simp
    with_reducible rfl
  rotate_left
  · simp only [Act.put, List.setIfInBounds_toArray, List.set_cons_zero, List.set_cons_succ, i64_w, i32_w]
    rfl
  refine pure_ (i := 9) (N := some 2) (v := ?_) (a' := ?_) #[true, true, true, true, true, true, true, true, true, true, false, false] rfl rfl (by kernel_rfl) (fun _ _ _ h => h) (Or.inl ⟨by rfl, ?_⟩) ?_ ?_
  rotate_left
  · intro w'
    go_simp
    with_reducible rfl
  rotate_left
  · simp only [Act.put, List.setIfInBounds_toArray, List.set_cons_zero, List.set_cons_succ, i64_w, i32_w]
    rfl
  refine pure_ (i := 10) (N := some 3) (v := ?_) (a' := ?_) #[true, true, true, true, true, true, true, true, true, true, true, false] rfl rfl (by kernel_rfl) (fun _ _ _ h => h) (Or.inl ⟨by rfl, ?_⟩) ?_ ?_
  rotate_left
  · intro w'
    go_simp
    with_reducible rfl
  rotate_left
  · simp only [Act.put, List.setIfInBounds_toArray, List.set_cons_zero, List.set_cons_succ, i64_w, i32_w]
    rfl
  refine pure_ (i := 11) (N := some 4) (v := ?_) (a' := ?_) #[true, true, true, true, true, true, true, true, true, true, true, true] rfl rfl (by kernel_rfl) (fun _ _ _ h => h) (Or.inl ⟨by rfl, ?_⟩) ?_ ?_
  rotate_left
  · intro w'
    go_simp
    with_reducible rfl
  rotate_left
  · simp only [Act.put, List.setIfInBounds_toArray, List.set_cons_zero, List.set_cons_succ, i64_w, i32_w]
    rfl
  refine done_ (by kernel_rfl) ?_
  go_wp2
  go_ret3
  exact ⟨A2, _, by first | rfl | (rw [HWU.out]; done) | (rw [HWU.out]; rfl) | (simp only [HWU.out]; rfl), HPV.out _ (below_drew1 HB.out), HPC.out, below_drew1 HB.out⟩
theorem refsplit (A : Option Addr) (c : Nat) (l : List Int) (w : World) (hV : Kd.C (Kd.int .u8) w A l.length l) (hc : l.length ≤ c) (hb : Bytes l) (hl : l.length ≤ 600) {u g : Int} {p : List Int} (hs : splitV l = (u, p, g)) :
    Calls Try.prog 31 #[.slice A l.length c] w fun e w' => ∃ A' c', e = .returned (.tuple #[.int .i64 u, .slice A' p.length c', .int .i64 g]) ∧ Kd.C (Kd.int .u8) w' A' p.length p ∧ p.length ≤ c' ∧ Below w.heap.size w w' := by
  unfold splitV at hs
  by_cases h1 : l.length < 4
  · rw [if_pos h1] at hs; simp only [Prod.mk.injEq] at hs; obtain ⟨rfl, rfl, rfl⟩ := hs; exact rs_1 A c l w hV hc hb hl h1
  rw [if_neg h1] at hs
  by_cases h2 : 256 < l.length
  · rw [if_pos h2] at hs; simp only [Prod.mk.injEq] at hs; obtain ⟨rfl, rfl, rfl⟩ := hs; exact rs_2 A c l w hV hc hb hl h2
  rw [if_neg h2] at hs
  by_cases h3 : crcN 65535 l ≠ 0
  · rw [if_pos h3] at hs; simp only [Prod.mk.injEq] at hs; obtain ⟨rfl, rfl, rfl⟩ := hs; exact rs_3 A c l w hV hc hb hl (by omega) (by omega) h3
  rw [if_neg h3] at hs
  have h3' : crcN 65535 l = 0 := Classical.byContradiction h3
  by_cases h4 : 247 < rd l 0
  · rw [if_pos h4] at hs; simp only [Prod.mk.injEq] at hs; obtain ⟨rfl, rfl, rfl⟩ := hs; exact rs_4 A c l w hV hc hb hl (by omega) (by omega) h3' h4
  · rw [if_neg h4] at hs; simp only [Prod.mk.injEq] at hs; obtain ⟨rfl, rfl, rfl⟩ := hs; exact rs_5 A c l w hV hc hb hl (by omega) (by omega) h3' (by omega)
end Go.Proofs.Ytabjlanomebonaa.HandRF

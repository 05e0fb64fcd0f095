/- The walk of MbapLeft. (printed by gen_left.py) -/
import Derived.Test.YtabjlanomebonaaAwakeB
import Derived.Test.YtabjlanomebonaaMthL
namespace Go.Proofs.Ytabjlanomebonaa.HandLeft
open Go.RowKit Go.Proofs.YtabjlanomebonaaW.PrintWords Go.Proofs.YtabjlanomebonaaW.PrintLast Go.Proofs.YtabjlanomebonaaW.PrintMore Go.Proofs.Ytabjlanomebonaa.Core Go.Proofs.Ytabjlanomebonaa.Ext Go.Proofs.Ytabjlanomebonaa.ExtC Go.Proofs.Ytabjlanomebonaa.PB Go.Proofs.Ytabjlanomebonaa.StrA Go.Proofs.Ytabjlanomebonaa.StrB Go.Proofs.Ytabjlanomebonaa.MthF Go.Proofs.Ytabjlanomebonaa.MthG Go.Proofs.Ytabjlanomebonaa.MthL Go.Proofs.Ytabjlanomebonaa.AwakeA Go.Proofs.Ytabjlanomebonaa.AwakeB
set_option linter.unusedVariables false
set_option linter.unusedSimpArgs false

theorem mkS {w3 W : World} {ad : Addr} {i : Nat} {t u : Int} {p y : List Int} {A2 A4 A5 : Option Addr} {c2 c4 c5 : Nat} (h1 : Below w3.heap.size w3 W) (x0 : w3.cell? (ad.add (i * 3)) = some (.int .i64 t)) (x1 : w3.cell? ⟨(ad.add (i * 3)).block, (ad.add (i * 3)).off + 1, none⟩ = some (.int .i64 u)) (x2 : w3.cell? ⟨(ad.add (i * 3)).block, (ad.add (i * 3)).off + 2, none⟩ = some (.slice A2 p.length c2)) (h4 : Kd.C (Kd.int .u8) W A4 y.length y) (h5 : Kd.C (Kd.int .u8) w3 A5 y.length y) :
    Below w3.heap.size w3 W ∧ Kd.C (Kd.int .u8) W A4 y.length y ∧ W.cell? (ad.add (i * 3)) = some (.int .i64 t) ∧ W.cell? ⟨(ad.add (i * 3)).block, (ad.add (i * 3)).off + 1, none⟩ = some (.int .i64 u) ∧ W.cell? ⟨(ad.add (i * 3)).block, (ad.add (i * 3)).off + 2, none⟩ = some (.slice A2 p.length c2) ∧ Sem.run Try.prog (convert 22 9 (.slice A4 y.length c4)) W = .ok (.string (strOfNums y)) W ∧ Sem.run Try.prog (convert 22 9 (.slice A5 y.length c5)) W = .ok (.string (strOfNums y)) W :=
  ⟨h1, h4, (h1.cell (World.block_lt_of_cell? w3 _ x0)).trans x0, (h1.cell (World.block_lt_of_cell? w3 _ x1)).trans x1, (h1.cell (World.block_lt_of_cell? w3 _ x2)).trans x2, string_of_reads (P := Try.prog) (c := c4) Try.underlying22 Try.underlying5 Try.underlying9 (Kd.reads_of_C h4), string_of_reads (P := Try.prog) (c := c5) Try.underlying22 Try.underlying5 Try.underlying9 (Kd.reads_of_C (Kd.C_below h5 h1))⟩
set_option maxHeartbeats 8000000 in
set_option maxRecDepth 100000 in
theorem left_bad (A0 : Option Addr) (c0 : Nat) (b : List Int) (w : World) (HV0 : Aside0 (Kd.C (Kd.int .u8) w A0 b.length b)) (HC0 : Aside0 (b.length ≤ c0)) (hby : Bytes b) (hl : b.length ≤ 3000) (fs : List PZ.S37) (r : List Int) (F : Aside0 (allF (b.length + 1) b = (fs, r, true)))  : Calls Try.prog 10 #[.slice A0 b.length c0] w fun e w' => e = .returned (.bool true) ∧ Below w.heap.size w w' := by
  have g1 : decide (3000 < (b.length : Int)) = false := decide_eq_false (by omega)
  have g1n : decide (3000 < b.length) = false := decide_eq_false (by omega)
  have HBY := Aside0.mk hby; clear hby
  have HE0 : Aside0 (Ever (fun k => k = w.heap.size) (w.alloc (.cells #[.slice none 0 0, .bool false] 72)) (fun W => Kd.C (Kd.int .u8) W A0 b.length b)) := ⟨(Ever.C (M := (fun k => k = w.heap.size)) HV0.out (fun k hk => by omega)).step ((Ext.refl _ _).alloc _)⟩
  have HA1 : Aside0 (IsStream (fun k => k = w.heap.size) (w.alloc (.cells #[.slice none 0 0, .bool false] 72)) w.heap.size [] false) := ⟨⟨none, 0, new_blk rfl, Nat.le_refl _, Ever.nil _⟩⟩; have HMB1 : Aside0 (∀ k, (fun k => k = w.heap.size) k → k < ((w.alloc (.cells #[.slice none 0 0, .bool false] 72))).heap.size) := ⟨fun k hk => by have e : k = w.heap.size := hk; rw [e]; simp⟩
  have hr0 : r = [] := (allF_parts (b.length + 1) b [] fs r true (by omega) F.out).1 rfl |>.1
  subst hr0
  go_enter Try.func10, Try.ntmps10
  go_wp2_with (first | (go_at_call 23; (refine (stream_new _).mono ?_; rintro e w' ⟨rfl, rfl⟩)) | (go_at_call 24; (refine (sfeed (fun k => k = w.heap.size) w.heap.size [] b _ _ _ rfl HMB1.out HA1.out HE0.out (fun x hx => by simp at hx) HBY.out (by simp) (by omega) (b.length + 1) (by simp) fs [] true (by rw [List.nil_append]; exact F.out)).mono ?_; rintro e w3 ⟨v, rfl, HR, HSn, HXn⟩; obtain ⟨A1, c1, rfl, hc1, HR⟩ := HR; have HVR := Aside0.mk HR.ever.now; have HC1 := Aside0.mk hc1; have HA3 := Aside0.mk HSn; have HX3 : Aside0 (Ext (fun k => k = w.heap.size) w w3) := ⟨((Ext.refl _ _).alloc _).trans HXn⟩; have HB3 : Aside0 (Below w.heap.size w w3) := ⟨Ext.below HX3.out (fun k hk => by have e : k = w.heap.size := hk; omega)⟩; clear HR HSn HXn hc1 HA1 HE0 HMB1 HX3)) | (go_at_call 20; (refine (awake6 _).mono ?_; rintro e w8 ⟨rfl, HBa⟩; have HAf : Aside0 (IsStream (fun k => k = w.heap.size) w8 w.heap.size [] true) := ⟨isStream_below HA3.out HBa⟩; have HBe : Aside0 (Below w.heap.size w w8) := ⟨below_step HB3.out HBa⟩; clear HBa)) | (go_at_call 25; (refine (left_any (fun k => k = w.heap.size) w.heap.size [] true _ HAf.out).mono ?_; rintro e w' ⟨rfl, hw_⟩; rw [hw_]; clear hw_ w')))
  go_ret
  exact ⟨rfl, HBe.out⟩
set_option maxHeartbeats 8000000 in
set_option maxRecDepth 100000 in
theorem left_ok (A0 : Option Addr) (c0 : Nat) (b : List Int) (w : World) (HV0 : Aside0 (Kd.C (Kd.int .u8) w A0 b.length b)) (HC0 : Aside0 (b.length ≤ c0)) (hby : Bytes b) (hl : b.length ≤ 3000) (fs : List PZ.S37) (r : List Int) (F : Aside0 (allF (b.length + 1) b = (fs, r, false))) (q : Nat → Nat) (hq0 : q 0 = 0) (hqe : q fs.length + r.length = b.length) (hfl : fs.length ≤ 3000) (HQ : Aside0 (∀ i, i < fs.length → mayA (PZ.rd_T37 fs i).f0 (PZ.rd_T37 fs i).f1 (PZ.rd_T37 fs i).f2 ∧ q (i + 1) = q i + (frameB (PZ.rd_T37 fs i).f0 (PZ.rd_T37 fs i).f1 (PZ.rd_T37 fs i).f2).length ∧ q (i + 1) ≤ b.length ∧ (b.take (q (i + 1))).drop (q i) = frameB (PZ.rd_T37 fs i).f0 (PZ.rd_T37 fs i).f1 (PZ.rd_T37 fs i).f2)) : Calls Try.prog 10 #[.slice A0 b.length c0] w fun e w' => e = .returned (.bool true) ∧ Below w.heap.size w w' := by
  have g1 : decide (3000 < (b.length : Int)) = false := decide_eq_false (by omega)
  have g1n : decide (3000 < b.length) = false := decide_eq_false (by omega)
  have HBY := Aside0.mk hby; clear hby
  have HE0 : Aside0 (Ever (fun k => k = w.heap.size) (w.alloc (.cells #[.slice none 0 0, .bool false] 72)) (fun W => Kd.C (Kd.int .u8) W A0 b.length b)) := ⟨(Ever.C (M := (fun k => k = w.heap.size)) HV0.out (fun k hk => by omega)).step ((Ext.refl _ _).alloc _)⟩
  have HA1 : Aside0 (IsStream (fun k => k = w.heap.size) (w.alloc (.cells #[.slice none 0 0, .bool false] 72)) w.heap.size [] false) := ⟨⟨none, 0, new_blk rfl, Nat.le_refl _, Ever.nil _⟩⟩; have HMB1 : Aside0 (∀ k, (fun k => k = w.heap.size) k → k < ((w.alloc (.cells #[.slice none 0 0, .bool false] 72))).heap.size) := ⟨fun k hk => by have e : k = w.heap.size := hk; rw [e]; simp⟩
  go_enter Try.func10, Try.ntmps10
  go_wp2_with (first | (go_at_call 23; (refine (stream_new _).mono ?_; rintro e w' ⟨rfl, rfl⟩)) | (go_at_call 24; (refine (sfeed (fun k => k = w.heap.size) w.heap.size [] b _ _ _ rfl HMB1.out HA1.out HE0.out (fun x hx => by simp at hx) HBY.out (by simp) (by omega) (b.length + 1) (by simp) fs r false (by rw [List.nil_append]; exact F.out)).mono ?_; rintro e w3 ⟨v, rfl, HR, HSn, HXn⟩; obtain ⟨A1, c1, rfl, hc1, HR⟩ := HR; have HVR := Aside0.mk HR.ever.now; have HC1 := Aside0.mk hc1; have HA3 := Aside0.mk HSn; have HX3 : Aside0 (Ext (fun k => k = w.heap.size) w w3) := ⟨((Ext.refl _ _).alloc _).trans HXn⟩; have HB3 : Aside0 (Below w.heap.size w w3) := ⟨Ext.below HX3.out (fun k hk => by have e : k = w.heap.size := hk; omega)⟩; clear HR HSn HXn hc1 HA1 HE0 HMB1 HX3)))
  go_loopw [6, 7] (fun v6 v7 wr => ∃ i : Nat, v6 = .int .i64 (q i : Nat) ∧ v7 = .int .i64 i ∧ i ≤ fs.length ∧ Aside0 (Below w3.heap.size w3 wr)) (fun _ v7 _ => fs.length - (intOf v7).toNat)
  case atStart => exact ⟨0, by rw [hq0]; rfl, rfl, by omega, ⟨Below.refl _ _⟩⟩
  case round =>
    obtain ⟨i, rfl, rfl, hi, HB⟩ := hrel
    by_cases hlt : i < fs.length
    · have hltb : decide ((i : Int) < (fs.length : Int)) = true := decide_eq_true (by omega)
      have hltn : decide (i < fs.length) = true := decide_eq_true hlt
      obtain ⟨hm, hn1, hn2, hn3⟩ := HQ.out i hlt
      obtain ⟨ad, A2, c2, rfl, x0, x1, x2, hc2, HC2⟩ := PZ.at_T37 HVR.out (i : Int) (by omega) (by omega)
      simp only [Int.toNat_natCast] at x0 x1 x2
      have F1 : Aside0 (mbap_Frame.f 2 (PZ.rd_T37 fs i).f0 (PZ.rd_T37 fs i).f1 (PZ.rd_T37 fs i).f2 = some (frameB (PZ.rd_T37 fs i).f0 (PZ.rd_T37 fs i).f1 (PZ.rd_T37 fs i).f2, 0)) := ⟨frame_yes 1 hm⟩
      have F2 : Aside0 (basculeref06_May.f (PZ.rd_T37 fs i).f0 (PZ.rd_T37 fs i).f1 (PZ.rd_T37 fs i).f2 = some true) := ⟨by rw [may_f, decide_eq_true hm]⟩
      clear hm
      generalize frameB (PZ.rd_T37 fs i).f0 (PZ.rd_T37 fs i).f1 (PZ.rd_T37 fs i).f2 = y at hn1 hn3 F1
      generalize (PZ.rd_T37 fs i).f0 = t at *; generalize (PZ.rd_T37 fs i).f1 = u at *; generalize (PZ.rd_T37 fs i).f2 = p at *
      have hnx : q (i + 1) = q i + y.length := hn1
      have HNX := Aside0.mk hnx
      rw [hn1] at hn2 hn3; clear hn1 hnx
      generalize q i = n at *
      obtain ⟨i0, hi0, hz0_, hz1_, hz2_⟩ := info_parts PZ.info5
      obtain ⟨A5, hcut1, hcutr, hcutl⟩ := print_mid_int (P := Try.prog) (k := .u8) 22 5 Try.underlying22 hi0 hz1_ A0 c0 b (n : Int) ((n : Int) + (y.length : Int)) (by omega) (by omega) (by omega) HC0.out
      rw [show ((n : Int) + (y.length : Int)).toNat = n + y.length from by omega, Int.toNat_natCast, hn3] at hcutr hcutl
      rw [show ((n : Int) + (y.length : Int)).toNat = n + y.length from by omega, Int.toNat_natCast, hn3] at hcut1
      have HVY : Aside0 (Kd.C (Kd.int .u8) w3 A5 y.length y) := ⟨Kd.C_of_reads (d := (0 : Int)) (h1 := fun _ => rfl) (hcutr w3 (Kd.reads_of_C (Kd.C_below HV0.out HB3.out)))⟩
      clear hcutr hcutl hi0 hz0_ hz1_ hz2_ hn3
      generalize hc5_ : c0 - n = c5 at hcut1; clear hc5_
      have X0 := Aside0.mk x0; have X1 := Aside0.mk x1; have X2 := Aside0.mk x2; have XC := Aside0.mk HC2; have hc2 := Aside0.mk hc2; clear HC2
      have k0 := (HB.out.cell (World.block_lt_of_cell? w3 _ x0)).trans x0; have k1 := (HB.out.cell (World.block_lt_of_cell? w3 _ x1)).trans x1; have k2 := (HB.out.cell (World.block_lt_of_cell? w3 _ x2)).trans x2
      clear x0 x1 x2
      have hgt : decide ((b.length : Int) < (n : Int) + (y.length : Int)) = false := decide_eq_false (by omega)
      have hgtn : decide (b.length < n + y.length) = false := decide_eq_false (by omega)
      have hwr : wrap64 ((n : Int) + (y.length : Int)) = (n : Int) + (y.length : Int) := by unfold wrap64; omega
      have hgw : decide ((b.length : Int) < wrap64 ((n : Int) + (y.length : Int))) = false := by rw [hwr]; exact hgt
      have hcutw := hcut1; rw [← hwr] at hcutw; clear hwr
      have hqq : ((strOfNums y).toList == (strOfNums y).toList) = true := by simp
      go_upto_region 14 with ((go_at_call 18; (refine (mbap_Frame.calls 2 t u A2 c2 p y 0 _ (Kd.C_below XC.out HB.out) hc2.out F1.out).mono ?_; rintro e w4 ⟨v4, rfl, HR4, HBc⟩; obtain ⟨A4, c4, rfl, hc4, HC4⟩ := Kd.R_reads HR4; have HV4 := Aside0.mk HC4; have HB4 := Aside0.mk (below_step HB.out HBc); clear HR4 hc4 HC4 HBc k0 k1 k2)))
      refine start_ (n := 32) (S := fun W => Below w3.heap.size w3 W ∧ Kd.C (Kd.int .u8) W A4 y.length y ∧ W.cell? (ad.add (i * 3)) = some (.int .i64 t) ∧ W.cell? ⟨(ad.add (i * 3)).block, (ad.add (i * 3)).off + 1, none⟩ = some (.int .i64 u) ∧ W.cell? ⟨(ad.add (i * 3)).block, (ad.add (i * 3)).off + 2, none⟩ = some (.slice A2 p.length c2) ∧ Sem.run Try.prog (convert 22 9 (.slice A4 y.length c4)) W = .ok (.string (strOfNums y)) W ∧ Sem.run Try.prog (convert 22 9 (.slice A5 y.length c5)) W = .ok (.string (strOfNums y)) W) (ds := []) #[false, false, false, false, false, false, false, false, false, false, false, false, false, false, false, false, false, false, false, false, false, false, false, false, false, false, false, false, false, false, false, false] (by kernel_rfl) rfl rfl ?_ (fun hHeld => ?_)
      · first | (exact mkS HB5.out X0.out X1.out X2.out HV5.out HVY.out) | (exact mkS (below_drew1 HB4.out) X0.out X1.out X2.out (Kd.C_drew HV4.out) HVY.out)
      refine pure_ (i := 0) (N := some 48) (v := ?_) (a' := ?_) #[true, false, false, false, false, false, false, false, false, false, false, false, false, false, false, false, false, false, false, false, false, false, false, false, false, false, false, false, false, false, false, false] rfl rfl (by kernel_rfl) (fun _ _ _ h => h) (Or.inl ⟨by rfl, ?_⟩) ?_ ?_
      rotate_left
      · intro w'
        go_simp
        with_reducible rfl
      rotate_left
      · simp only [Act.put, List.setIfInBounds_toArray, List.set_cons_zero, List.set_cons_succ, i64_w, i32_w]
        rfl
      refine pure_ (i := 1) (N := some 49) (v := ?_) (a' := ?_) #[true, true, false, false, false, false, false, false, false, false, false, false, false, false, false, false, false, false, false, false, false, false, false, false, false, false, false, false, false, false, false, false] rfl rfl (by kernel_rfl) (fun _ _ _ h => h) (Or.inl ⟨by rfl, ?_⟩) ?_ ?_
      rotate_left
      · intro w'
        go_simp
        with_reducible rfl
      rotate_left
      · simp only [Act.put, List.setIfInBounds_toArray, List.set_cons_zero, List.set_cons_succ, i64_w, i32_w]
        rfl
      refine pure_ (i := 2) (N := some 50) (v := ?_) (a' := ?_) #[true, true, true, false, false, false, false, false, false, false, false, false, false, false, false, false, false, false, false, false, false, false, false, false, false, false, false, false, false, false, false, false] rfl rfl (by kernel_rfl) (fun _ _ _ h => h) (Or.inl ⟨by rfl, ?_⟩) ?_ ?_
      rotate_left
      · intro w'
        go_simp
        with_reducible rfl
      rotate_left
      · simp only [Act.put, List.setIfInBounds_toArray, List.set_cons_zero, List.set_cons_succ, i64_w, i32_w]
        rfl
      refine pure_ (i := 3) (N := some 51) (v := ?_) (a' := ?_) #[true, true, true, true, false, false, false, false, false, false, false, false, false, false, false, false, false, false, false, false, false, false, false, false, false, false, false, false, false, false, false, false] rfl rfl (by kernel_rfl) (fun _ _ _ h => h) (Or.inl ⟨by rfl, ?_⟩) ?_ ?_
      rotate_left
      · intro w'
        go_simp
        with_reducible rfl
      rotate_left
      · simp only [Act.put, List.setIfInBounds_toArray, List.set_cons_zero, List.set_cons_succ, i64_w, i32_w]
        rfl
      refine pure_ (i := 4) (N := some 52) (v := ?_) (a' := ?_) #[true, true, true, true, true, false, false, false, false, false, false, false, false, false, false, false, false, false, false, false, false, false, false, false, false, false, false, false, false, false, false, false] rfl rfl (by kernel_rfl) (fun _ _ _ h => h) (Or.inl ⟨by rfl, ?_⟩) ?_ ?_
      rotate_left
      · intro w'
        go_simp
        with_reducible rfl
      rotate_left
      · simp only [Act.put, List.setIfInBounds_toArray, List.set_cons_zero, List.set_cons_succ, i64_w, i32_w]
        rfl
      refine take_ (i := 5) (N := some 53) (v := ?_) (a' := ?_) #[true, true, true, true, true, true, false, false, false, false, false, false, false, false, false, false, false, false, false, false, false, false, false, false, false, false, false, false, false, false, false, false] rfl rfl (by kernel_rfl) (fun _ _ _ h => h) (Or.inl ⟨by rfl, ?_⟩) hHeld ?_ ?_
      rotate_left
      · rintro w' ⟨s0, s1, s2, s3, s4, s5, s6⟩
        go_simp
        with_reducible rfl
      rotate_left
      · simp only [Act.put, List.setIfInBounds_toArray, List.set_cons_zero, List.set_cons_succ, i64_w, i32_w]
        rfl
      refine take_ (i := 6) (N := some 54) (v := ?_) (a' := ?_) #[true, true, true, true, true, true, true, false, false, false, false, false, false, false, false, false, false, false, false, false, false, false, false, false, false, false, false, false, false, false, false, false] rfl rfl (by kernel_rfl) (fun _ _ _ h => h) (Or.inl ⟨by rfl, ?_⟩) hHeld ?_ ?_
      rotate_left
      · rintro w' ⟨s0, s1, s2, s3, s4, s5, s6⟩
        go_simp
        with_reducible rfl
      rotate_left
      · simp only [Act.put, List.setIfInBounds_toArray, List.set_cons_zero, List.set_cons_succ, i64_w, i32_w]
        rfl
      refine one_ (i := 7) (N := some 55) #[true, true, true, true, true, true, true, true, false, false, false, false, false, false, false, false, false, false, false, false, false, false, false, false, false, false, false, false, false, false, false, false] rfl rfl (by kernel_rfl) (by decide) (fun K hK => ?_)
      refine goes_ Try.func19 (by kernel_rfl) rfl #[.agg #[.int .i64 t, .int .i64 u, .slice A2 p.length c2]] (by rfl) rfl rfl (by (try simp only [List.map_toArray, List.map_cons, List.map_nil]); first | done | rfl) ?_
      refine (basculeref06_May.calls t u A2 c2 p true _ (Kd.C_below XC.out hHeld.1) hc2.out F2.out).mono ?_
      rintro e w5 ⟨rfl, HBa⟩
      refine ⟨_, rfl, ?_⟩
      have HB5 := Aside0.mk (below_step hHeld.1 HBa); have HV5 := Aside0.mk (Kd.C_below hHeld.2.1 HBa)
      clear HBa
      refine hK.out _ _ ?_ (fun hHeld => ?_)
      · first | (exact mkS HB5.out X0.out X1.out X2.out HV5.out HVY.out) | (exact mkS (below_drew1 HB4.out) X0.out X1.out X2.out (Kd.C_drew HV4.out) HVY.out)
      clear hK K
      refine norm_ (a' := ?_) ?_ ?_
      rotate_left
      · show Act.put _ (some 55) _ = _
        simp only [Act.put, List.setIfInBounds_toArray, List.set_cons_zero, List.set_cons_succ, i64_w, i32_w]
        rfl
      refine pure_ (i := 8) (N := some 56) (v := ?_) (a' := ?_) #[true, true, true, true, true, true, true, true, true, false, false, false, false, false, false, false, false, false, false, false, false, false, false, false, false, false, false, false, false, false, false, false] rfl rfl (by kernel_rfl) (fun _ _ _ h => h) (Or.inl ⟨by rfl, ?_⟩) ?_ ?_
      rotate_left
      · intro w'
        go_simp
        with_reducible rfl
      rotate_left
      · simp only [Act.put, List.setIfInBounds_toArray, List.set_cons_zero, List.set_cons_succ, i64_w, i32_w]
        rfl
      refine pure_ (i := 9) (N := some 57) (v := ?_) (a' := ?_) #[true, true, true, true, true, true, true, true, true, true, false, false, false, false, false, false, false, false, false, false, false, false, false, false, false, false, false, false, false, false, false, false] rfl rfl (by kernel_rfl) (fun _ _ _ h => h) (Or.inl ⟨by rfl, ?_⟩) ?_ ?_
      rotate_left
      · intro w'
        go_simp
        with_reducible rfl
      rotate_left
      · simp only [Act.put, List.setIfInBounds_toArray, List.set_cons_zero, List.set_cons_succ, i64_w, i32_w]
        rfl
      refine pure_ (i := 10) (N := some 58) (v := ?_) (a' := ?_) #[true, true, true, true, true, true, true, true, true, true, true, false, false, false, false, false, false, false, false, false, false, false, false, false, false, false, false, false, false, false, false, false] rfl rfl (by kernel_rfl) (fun _ _ _ h => h) (Or.inl ⟨by rfl, ?_⟩) ?_ ?_
      rotate_left
      · intro w'
        go_simp
        with_reducible rfl
      rotate_left
      · simp only [Act.put, List.setIfInBounds_toArray, List.set_cons_zero, List.set_cons_succ, i64_w, i32_w]
        rfl
      refine pure_ (i := 11) (N := some 59) (v := ?_) (a' := ?_) #[true, true, true, true, true, true, true, true, true, true, true, true, false, false, false, false, false, false, false, false, false, false, false, false, false, false, false, false, false, false, false, false] rfl rfl (by kernel_rfl) (fun _ _ _ h => h) (Or.inl ⟨by rfl, ?_⟩) ?_ ?_
      rotate_left
      · intro w'
        go_simp
        with_reducible rfl
      rotate_left
      · simp only [Act.put, List.setIfInBounds_toArray, List.set_cons_zero, List.set_cons_succ, i64_w, i32_w]
        rfl
      refine pure_ (i := 12) (N := some 60) (v := ?_) (a' := ?_) #[true, true, true, true, true, true, true, true, true, true, true, true, true, false, false, false, false, false, false, false, false, false, false, false, false, false, false, false, false, false, false, false] rfl rfl (by kernel_rfl) (fun _ _ _ h => h) (Or.inl ⟨by rfl, ?_⟩) ?_ ?_
      rotate_left
      · intro w'
        go_simp
        with_reducible rfl
      rotate_left
      · simp only [Act.put, List.setIfInBounds_toArray, List.set_cons_zero, List.set_cons_succ, i64_w, i32_w]
        rfl
      refine pure_ (i := 13) (N := some 61) (v := ?_) (a' := ?_) #[true, true, true, true, true, true, true, true, true, true, true, true, true, true, false, false, false, false, false, false, false, false, false, false, false, false, false, false, false, false, false, false] rfl rfl (by kernel_rfl) (fun _ _ _ h => h) (Or.inl ⟨by rfl, ?_⟩) ?_ ?_
      rotate_left
      · intro w'
        go_simp
        with_reducible rfl
      rotate_left
      · simp only [Act.put, List.setIfInBounds_toArray, List.set_cons_zero, List.set_cons_succ, i64_w, i32_w]
        rfl
      refine pure_ (i := 14) (N := some 62) (v := ?_) (a' := ?_) #[true, true, true, true, true, true, true, true, true, true, true, true, true, true, true, false, false, false, false, false, false, false, false, false, false, false, false, false, false, false, false, false] rfl rfl (by kernel_rfl) (fun _ _ _ h => h) (Or.inl ⟨by rfl, ?_⟩) ?_ ?_
      rotate_left
      · intro w'
        go_simp
        with_reducible rfl
      rotate_left
      · simp only [Act.put, List.setIfInBounds_toArray, List.set_cons_zero, List.set_cons_succ, i64_w, i32_w]
        rfl
      refine pure_ (i := 15) (N := some 63) (v := ?_) (a' := ?_) #[true, true, true, true, true, true, true, true, true, true, true, true, true, true, true, true, false, false, false, false, false, false, false, false, false, false, false, false, false, false, false, false] rfl rfl (by kernel_rfl) (fun _ _ _ h => h) (Or.inl ⟨by rfl, ?_⟩) ?_ ?_
      rotate_left
      · intro w'
        go_simp
        with_reducible rfl
      rotate_left
      · simp only [Act.put, List.setIfInBounds_toArray, List.set_cons_zero, List.set_cons_succ, i64_w, i32_w]
        rfl
      refine pure_ (i := 16) (N := some 64) (v := ?_) (a' := ?_) #[true, true, true, true, true, true, true, true, true, true, true, true, true, true, true, true, true, false, false, false, false, false, false, false, false, false, false, false, false, false, false, false] rfl rfl (by kernel_rfl) (fun _ _ _ h => h) (Or.inl ⟨by rfl, ?_⟩) ?_ ?_
      rotate_left
      · intro w'
        go_simp
        with_reducible rfl
      rotate_left
      · simp only [Act.put, List.setIfInBounds_toArray, List.set_cons_zero, List.set_cons_succ, i64_w, i32_w]
        rfl
      refine pure_ (i := 17) (N := some 65) (v := ?_) (a' := ?_) #[true, true, true, true, true, true, true, true, true, true, true, true, true, true, true, true, true, true, false, false, false, false, false, false, false, false, false, false, false, false, false, false] rfl rfl (by kernel_rfl) (fun _ _ _ h => h) (Or.inl ⟨by rfl, ?_⟩) ?_ ?_
      rotate_left
      · intro w'
        go_simp
        with_reducible rfl
      rotate_left
      · simp only [Act.put, List.setIfInBounds_toArray, List.set_cons_zero, List.set_cons_succ, i64_w, i32_w]
        rfl
      refine pure_ (i := 18) (N := some 66) (v := ?_) (a' := ?_) #[true, true, true, true, true, true, true, true, true, true, true, true, true, true, true, true, true, true, true, false, false, false, false, false, false, false, false, false, false, false, false, false] rfl rfl (by kernel_rfl) (fun _ _ _ h => h) (Or.inl ⟨by rfl, ?_⟩) ?_ ?_
      rotate_left
      · intro w'
        go_simp
        with_reducible rfl
      rotate_left
      · simp only [Act.put, List.setIfInBounds_toArray, List.set_cons_zero, List.set_cons_succ, i64_w, i32_w]
        rfl
      refine pure_ (i := 19) (N := some 67) (v := ?_) (a' := ?_) #[true, true, true, true, true, true, true, true, true, true, true, true, true, true, true, true, true, true, true, true, false, false, false, false, false, false, false, false, false, false, false, false] rfl rfl (by kernel_rfl) (fun _ _ _ h => h) (Or.inl ⟨by rfl, ?_⟩) ?_ ?_
      rotate_left
      · intro w'
        go_simp
        with_reducible rfl
      rotate_left
      · simp only [Act.put, List.setIfInBounds_toArray, List.set_cons_zero, List.set_cons_succ, i64_w, i32_w]
        rfl
      refine pure_ (i := 20) (N := some 68) (v := ?_) (a' := ?_) #[true, true, true, true, true, true, true, true, true, true, true, true, true, true, true, true, true, true, true, true, true, false, false, false, false, false, false, false, false, false, false, false] rfl rfl (by kernel_rfl) (fun _ _ _ h => h) (Or.inl ⟨by rfl, ?_⟩) ?_ ?_
      rotate_left
      · intro w'
        go_simp
        with_reducible rfl
      rotate_left
      · simp only [Act.put, List.setIfInBounds_toArray, List.set_cons_zero, List.set_cons_succ, i64_w, i32_w]
        rfl
      refine take_ (i := 21) (N := some 69) (v := ?_) (a' := ?_) #[true, true, true, true, true, true, true, true, true, true, true, true, true, true, true, true, true, true, true, true, true, true, false, false, false, false, false, false, false, false, false, false] rfl rfl (by kernel_rfl) (fun _ _ _ h => h) (Or.inl ⟨by rfl, ?_⟩) hHeld ?_ ?_
      rotate_left
      · rintro w' ⟨s0, s1, s2, s3, s4, s5, s6⟩
        go_simp
        with_reducible rfl
      rotate_left
      · simp only [Act.put, List.setIfInBounds_toArray, List.set_cons_zero, List.set_cons_succ, i64_w, i32_w]
        rfl
      refine pure_ (i := 22) (N := some 70) (v := ?_) (a' := ?_) #[true, true, true, true, true, true, true, true, true, true, true, true, true, true, true, true, true, true, true, true, true, true, true, false, false, false, false, false, false, false, false, false] rfl rfl (by kernel_rfl) (fun _ _ _ h => h) (Or.inl ⟨by rfl, ?_⟩) ?_ ?_
      rotate_left
      · intro w'
        go_simp
        with_reducible rfl
      rotate_left
      · simp only [Act.put, List.setIfInBounds_toArray, List.set_cons_zero, List.set_cons_succ, i64_w, i32_w]
        rfl
      refine pure_ (i := 23) (N := some 71) (v := ?_) (a' := ?_) #[true, true, true, true, true, true, true, true, true, true, true, true, true, true, true, true, true, true, true, true, true, true, true, true, false, false, false, false, false, false, false, false] rfl rfl (by kernel_rfl) (fun _ _ _ h => h) (Or.inl ⟨by rfl, ?_⟩) ?_ ?_
      rotate_left
      · intro w'
        go_simp
        with_reducible rfl
      rotate_left
      · simp only [Act.put, List.setIfInBounds_toArray, List.set_cons_zero, List.set_cons_succ, i64_w, i32_w]
        rfl
      refine pure_ (i := 24) (N := some 72) (v := ?_) (a' := ?_) #[true, true, true, true, true, true, true, true, true, true, true, true, true, true, true, true, true, true, true, true, true, true, true, true, true, false, false, false, false, false, false, false] rfl rfl (by kernel_rfl) (fun _ _ _ h => h) (Or.inl ⟨by rfl, ?_⟩) ?_ ?_
      rotate_left
      · intro w'
        go_simp
        with_reducible rfl
      rotate_left
      · simp only [Act.put, List.setIfInBounds_toArray, List.set_cons_zero, List.set_cons_succ, i64_w, i32_w]
        rfl
      refine pure_ (i := 25) (N := some 73) (v := ?_) (a' := ?_) #[true, true, true, true, true, true, true, true, true, true, true, true, true, true, true, true, true, true, true, true, true, true, true, true, true, true, false, false, false, false, false, false] rfl rfl (by kernel_rfl) (fun _ _ _ h => h) (Or.inl ⟨by rfl, ?_⟩) ?_ ?_
      rotate_left
      · intro w'
        go_simp
        with_reducible rfl
      rotate_left
      · simp only [Act.put, List.setIfInBounds_toArray, List.set_cons_zero, List.set_cons_succ, i64_w, i32_w]
        rfl
      refine pure_ (i := 26) (N := some 74) (v := ?_) (a' := ?_) #[true, true, true, true, true, true, true, true, true, true, true, true, true, true, true, true, true, true, true, true, true, true, true, true, true, true, true, false, false, false, false, false] rfl rfl (by kernel_rfl) (fun _ _ _ h => h) (Or.inl ⟨by rfl, ?_⟩) ?_ ?_
      rotate_left
      · intro w'
        go_simp
        with_reducible rfl
      rotate_left
      · simp only [Act.put, List.setIfInBounds_toArray, List.set_cons_zero, List.set_cons_succ, i64_w, i32_w]
        rfl
      refine pure_ (i := 27) (N := some 75) (v := ?_) (a' := ?_) #[true, true, true, true, true, true, true, true, true, true, true, true, true, true, true, true, true, true, true, true, true, true, true, true, true, true, true, true, false, false, false, false] rfl rfl (by kernel_rfl) (fun _ _ _ h => h) (Or.inl ⟨by rfl, ?_⟩) ?_ ?_
      rotate_left
      · intro w'
        go_simp
        with_reducible rfl
      rotate_left
      · simp only [Act.put, List.setIfInBounds_toArray, List.set_cons_zero, List.set_cons_succ, i64_w, i32_w]
        rfl
      refine take_ (i := 28) (N := some 76) (v := ?_) (a' := ?_) #[true, true, true, true, true, true, true, true, true, true, true, true, true, true, true, true, true, true, true, true, true, true, true, true, true, true, true, true, true, false, false, false] rfl rfl (by kernel_rfl) (fun _ _ _ h => h) (Or.inl ⟨by rfl, ?_⟩) hHeld ?_ ?_
      rotate_left
      · rintro w' ⟨s0, s1, s2, s3, s4, s5, s6⟩
        go_simp
        with_reducible rfl
      rotate_left
      · simp only [Act.put, List.setIfInBounds_toArray, List.set_cons_zero, List.set_cons_succ, i64_w, i32_w]
        rfl
      refine take_ (i := 29) (N := some 77) (v := ?_) (a' := ?_) #[true, true, true, true, true, true, true, true, true, true, true, true, true, true, true, true, true, true, true, true, true, true, true, true, true, true, true, true, true, true, false, false] rfl rfl (by kernel_rfl) (fun _ _ _ h => h) (Or.inl ⟨by rfl, ?_⟩) hHeld ?_ ?_
      rotate_left
      · rintro w' ⟨s0, s1, s2, s3, s4, s5, s6⟩
        go_simp
        with_reducible rfl
      rotate_left
      · simp only [Act.put, List.setIfInBounds_toArray, List.set_cons_zero, List.set_cons_succ, i64_w, i32_w]
        rfl
      refine pure_ (i := 30) (N := some 78) (v := ?_) (a' := ?_) #[true, true, true, true, true, true, true, true, true, true, true, true, true, true, true, true, true, true, true, true, true, true, true, true, true, true, true, true, true, true, true, false] rfl rfl (by kernel_rfl) (fun _ _ _ h => h) (Or.inl ⟨by rfl, ?_⟩) ?_ ?_
      rotate_left
      · intro w'
        go_simp
        with_reducible rfl
      rotate_left
      · simp only [Act.put, List.setIfInBounds_toArray, List.set_cons_zero, List.set_cons_succ, i64_w, i32_w]
        rfl
      refine pure_ (i := 31) (N := some 79) (v := ?_) (a' := ?_) #[true, true, true, true, true, true, true, true, true, true, true, true, true, true, true, true, true, true, true, true, true, true, true, true, true, true, true, true, true, true, true, true] rfl rfl (by kernel_rfl) (fun _ _ _ h => h) (Or.inl ⟨by rfl, ?_⟩) ?_ ?_
      rotate_left
      · intro w'
        go_simp
        with_reducible rfl
      rotate_left
      · simp only [Act.put, List.setIfInBounds_toArray, List.set_cons_zero, List.set_cons_succ, i64_w, i32_w]
        rfl
      refine done_ (by kernel_rfl) ?_
      go_wp2_with (fail)
      all_goals go_roundw
      all_goals first | (case measure => simp [intOf]; omega) | skip
      all_goals (case rel => exact ⟨i + 1, by rw [HNX.out]; go_num, by go_num, by omega, ⟨HB5.out⟩⟩)
    · have hltb : decide ((i : Int) < (fs.length : Int)) = false := decide_eq_false (by omega)
      have hltn : decide (i < fs.length) = false := decide_eq_false hlt
      have hie : i = fs.length := by omega
      subst hie
      generalize q fs.length = n at *
      have hend : (((n : Int) + (r.length : Int)) == (b.length : Int)) = true := by simp; omega
      go_wp2_with (first | (go_at_call 20; (refine (awake6 _).mono ?_; rintro e w8 ⟨rfl, HBa⟩; have HAf : Aside0 (IsStream (fun k => k = w.heap.size) w8 w.heap.size r false) := ⟨isStream_below HA3.out (below_step HB.out HBa)⟩; have HBe : Aside0 (Below w.heap.size w w8) := ⟨below_step HB3.out (below_step HB.out HBa)⟩; clear HBa)) | (go_at_call 25; (refine (left_any (fun k => k = w.heap.size) w.heap.size r false _ HAf.out).mono ?_; rintro e w' ⟨rfl, hw_⟩; rw [hw_]; clear hw_ w')))
      go_ret
      exact ⟨rfl, HBe.out⟩

theorem left_walk (A0 : Option Addr) (c0 : Nat) (b : List Int) (w : World) (HV0 : Aside0 (Kd.C (Kd.int .u8) w A0 b.length b)) (HC0 : Aside0 (b.length ≤ c0)) (hby : ∀ x ∈ b, 0 ≤ x ∧ x < 256) :
    Calls Try.prog 10 #[.slice A0 b.length c0] w fun e w' => e = .returned (.bool true) ∧ Below w.heap.size w w' := by
  have hmx := HV0.out.2.1
  by_cases h1 : 3000 < b.length
  · have g1 : decide (3000 < (b.length : Int)) = true := decide_eq_true (by omega)
    have g1n : decide (3000 < b.length) = true := decide_eq_true h1
    clear hby
    go_enter Try.func10, Try.ntmps10
    go_wp2
    go_ret
    exact ⟨rfl, Below.refl _ _⟩
  have hfl := allF_len (b.length + 1) b
  obtain ⟨fs, r, br, he⟩ : ∃ fs r br, allF (b.length + 1) b = (fs, r, br) := ⟨_, _, _, rfl⟩
  rw [he] at hfl
  simp only at hfl
  cases br with
  | true => exact left_bad A0 c0 b w HV0 HC0 hby (by omega) fs r ⟨he⟩
  | false =>
    obtain ⟨q, hq0, hqe, hq⟩ := allF_tells (b.length + 1) b fs r (by omega) hby he
    exact left_ok A0 c0 b w HV0 HC0 hby (by omega) fs r ⟨he⟩ q hq0 hqe (by omega) ⟨hq⟩
end Go.Proofs.Ytabjlanomebonaa.HandLeft

/- The walk of RtuParts. (printed by gen_parts.py) -/
import Derived.Test.YtabjlanomebonaaAwakeA
namespace Go.Proofs.Ytabjlanomebonaa.HandParts
open Go.RowKit Go.Proofs.YtabjlanomebonaaW.PrintWords Go.Proofs.YtabjlanomebonaaW.PrintLast Go.Proofs.YtabjlanomebonaaW.PrintMore Go.Proofs.Ytabjlanomebonaa.Core Go.Proofs.Ytabjlanomebonaa.Ext Go.Proofs.Ytabjlanomebonaa.ExtG Go.Proofs.Ytabjlanomebonaa.ExtL Go.Proofs.Ytabjlanomebonaa.ExtR Go.Proofs.Ytabjlanomebonaa.PZ
set_option linter.unusedVariables false
set_option linter.unusedSimpArgs false
theorem wf_u8 {x : Int} (h : (Lit.int .u8 x).wf = true) : 0 ≤ x ∧ x < 256 := by
  have this := h
  simp only [Lit.wf, Bool.and_eq_true, decide_eq_true_eq] at this
  rw [show IntKind.u8.min = 0 from rfl, show IntKind.u8.max = 255 from rfl] at this
  omega
theorem wf_i64 {x : Int} (h : (Lit.int .i64 x).wf = true) : -9223372036854775808 ≤ x ∧ x ≤ 9223372036854775807 := by
  have this := h
  simp only [Lit.wf, Bool.and_eq_true, decide_eq_true_eq] at this
  rw [show IntKind.i64.min = -9223372036854775808 from rfl, show IntKind.i64.max = 9223372036854775807 from rfl] at this
  omega
theorem rd_bd {l : List Int} (h : ∀ x ∈ l, -9223372036854775808 ≤ x ∧ x ≤ 9223372036854775807) (i : Int) : -9223372036854775808 ≤ rd l i ∧ rd l i ≤ 9223372036854775807 := by
  unfold rd
  rcases Nat.lt_or_ge i.toNat l.length with a | a
  · rw [List.getD_eq_getElem?_getD, List.getElem?_eq_getElem a]; exact h _ (List.getElem_mem a)
  · rw [List.getD_eq_getElem?_getD, List.getElem?_eq_none a]; simp
theorem take_more (b : List Int) (i n : Nat) : b.take i ++ (b.take (i + n)).drop i = b.take (i + n) := by
  have h : (b.take (i + n)).take i = b.take i := by rw [List.take_take, Nat.min_eq_left (by omega)]
  rw [← h]; exact List.take_append_drop _ _
set_option maxHeartbeats 20000000 in
set_option maxRecDepth 100000 in
theorem parts_main (gap : Int) (A0 : Option Addr) (c0 : Nat) (b : List Int) (A1 : Option Addr) (c1 : Nat) (pl : List Int) (A2 : Option Addr) (c2 : Nat) (wl : List Int) (w : World)
    (HV0 : Aside0 (Kd.C (Kd.int .u8) w A0 b.length b)) (HC0 : Aside0 (b.length ≤ c0)) (HV1 : Aside0 (Kd.C (Kd.int .i64) w A1 pl.length pl)) (HC1 : Aside0 (pl.length ≤ c1)) (HV2 : Aside0 (Kd.C (Kd.int .i64) w A2 wl.length wl)) (HC2 : Aside0 (wl.length ≤ c2))
    (hg1 : 1 ≤ gap) (hg2 : gap ≤ 1000) (hb1 : 1 ≤ b.length) (hb2 : b.length ≤ 600) (hp64 : ∀ x ∈ pl, -9223372036854775808 ≤ x ∧ x ≤ 9223372036854775807) (hw64 : ∀ x ∈ wl, -9223372036854775808 ≤ x ∧ x ≤ 9223372036854775807) :
    Calls Try.prog 3 #[.int .i64 gap, .slice A0 b.length c0, .slice A1 pl.length c1, .slice A2 wl.length c2] w fun e w' => e = .returned (.bool true) ∧ Below w.heap.size w w' := by
  have hm1 := HV1.out.2.1; have hm2 := HV2.out.2.1
  have HP := Aside0.mk hp64; have HW := Aside0.mk hw64; clear hp64 hw64
  have hgb1 : decide (gap < 1) = false := decide_eq_false (by omega)
  have hgb2 : decide (1000 < gap) = false := decide_eq_false (by omega)
  have hbb1 : decide ((b.length : Int) < 1) = false := decide_eq_false (by omega)
  have hbb2 : decide (600 < (b.length : Int)) = false := decide_eq_false (by omega)
  have hbn1 : decide (b.length < 1) = false := decide_eq_false (by omega)
  have hbn2 : decide (600 < b.length) = false := decide_eq_false (by omega)
  go_enter Try.func3, Try.ntmps3
  go_wp2_with (go_at_call 13; (refine (line_new gap _ hg1).mono ?_; rintro e w' ⟨rfl, rfl⟩))
  have hz0 := HV0.out.2.1
  have HL0 : Aside0 (IsLine (fun k => k = w.heap.size) (w.alloc (.cells #[.int .i64 0, .int .i64 gap, .int .i64 0, .slice none 0 0] 65)) w.heap.size 0 gap 0 []) := ⟨⟨none, 0, new_blk rfl, Nat.le_refl _, Ever.nil _⟩⟩
  go_loopw [11, 12, 13] (fun v11 v12 v13 wr => ∃ (now last : Int) (i at_ : Nat), v11 = .int .i64 now ∧ v12 = .int .i64 at_ ∧ v13 = .int .i64 i ∧ i ≤ at_ ∧ at_ ≤ b.length ∧ 0 ≤ last ∧ last ≤ now ∧ now < last + gap ∧ now ≤ 1000 * i ∧ Aside0 (at_ = b.length → now = last) ∧ Aside0 (IsLine (fun k => k = w.heap.size) wr w.heap.size last gap last (b.take at_)) ∧ Aside0 (Ext (fun k => k = w.heap.size) (w.alloc (.cells #[.int .i64 0, .int .i64 gap, .int .i64 0, .slice none 0 0] 65)) wr)) (fun _ v12 _ _ => b.length - (intOf v12).toNat)
  case atStart => exact ⟨0, 0, 0, 0, rfl, rfl, rfl, by omega, by omega, by omega, by omega, by omega, by omega, ⟨fun h => by omega⟩, HL0, ⟨Ext.refl _ _⟩⟩
  case round =>
    obtain ⟨now, last, i, at_, rfl, rfl, rfl, hi, hat, hl0, hln, hgap, hnow, HE, HL, HX⟩ := hrel
    clear HL0
    have HB : Aside0 (Below w.heap.size w wr) := ⟨Ext.below (M := (fun k => k = w.heap.size)) (((Ext.refl _ w).alloc _).trans HX.out) (fun k hk => by omega)⟩
    have HMB : Aside0 (∀ k, k = w.heap.size → k < wr.heap.size) := ⟨fun k hk => by have := HX.out.size; simp at this; omega⟩
    by_cases hlt : at_ < b.length
    · have hltb : decide ((at_ : Int) < (b.length : Int)) = true := decide_eq_true (by omega)
      have hltn : decide (at_ < b.length) = true := decide_eq_true hlt
      by_cases hip : i < pl.length
      · have hipb : decide ((i : Int) < (pl.length : Int)) = true := decide_eq_true (by omega)
        have hipn : decide (i < pl.length) = true := decide_eq_true hip
        obtain ⟨ad1, rfl, hx1⟩ := Kd.at_int (Kd.C_below HV1.out HB.out) (i : Int) (by omega) (by omega)
        rw [Int.toNat_natCast] at hx1
        generalize rd pl (i : Int) = p at hx1
        by_cases hp : 0 < p
        · have hpb : decide (0 < p) = true := decide_eq_true hp
          go_upto_if 79 with (fail)
          go_cut [14] (fun v14 wc => ∃ n : Nat, v14 = .int .i64 n ∧ 1 ≤ n ∧ at_ + n ≤ b.length ∧ wr = wc)
          case first =>
            by_cases hq : (b.length : Int) - (at_ : Int) < p
            · have hqb : decide ((b.length : Int) - (at_ : Int) < p) = true := decide_eq_true hq
              go_wp2_with (fail)
              go_meet
              case rel => exact ⟨b.length - at_, by go_num, by omega, by omega, rfl⟩
            · have hqb : decide ((b.length : Int) - (at_ : Int) < p) = false := decide_eq_false hq
              obtain ⟨p, rfl⟩ := Int.eq_ofNat_of_zero_le (show 0 ≤ p by omega)
              go_wp2_with (fail)
              go_meet
              case rel => exact ⟨p, rfl, by omega, by omega, rfl⟩
          case rest =>
            obtain ⟨n, rfl, hn1, hn2, rfl⟩ := hcut
            obtain ⟨i0, hi0, hz0_, hz1_, hz2_⟩ := info_parts PZ.info5
            obtain ⟨A', hcut1, hcutr, hcutl⟩ := print_mid_int (P := Try.prog) (k := .u8) 22 5 Try.underlying22 hi0 hz1_ A0 c0 b (at_ : Int) ((at_ : Int) + (n : Int)) (by omega) (by omega) (by omega) HC0.out
            have hys : ((b.take ((at_ : Int) + (n : Int)).toNat).drop (at_ : Int).toNat).length = n := by rw [List.length_drop, List.length_take]; omega
            have hyc : b.take at_ ++ (b.take ((at_ : Int) + (n : Int)).toNat).drop (at_ : Int).toNat = b.take (at_ + n) := by rw [show ((at_ : Int) + (n : Int)).toNat = at_ + n from by omega, Int.toNat_natCast]; exact take_more b at_ n
            generalize (b.take ((at_ : Int) + (n : Int)).toNat).drop (at_ : Int).toNat = ys at hcut1 hcutr hcutl hys hyc
            subst hys
            have HVY : Aside0 (Ever (fun k => k = w.heap.size) wr (fun W => Kd.C (Kd.int .u8) W A' ys.length ys)) := ⟨(Ever.old (M := (fun k => k = w.heap.size)) (HV0.out) (fun _ hb => Kd.C_below HV0.out hb) (fun k hk => by omega)).imp (fun W hW => Kd.C_of_reads (d := (0 : Int)) (h1 := fun _ => rfl) (hcutr W (Kd.reads_of_C hW))) |>.step (((Ext.refl _ w).alloc _).trans HX.out)⟩
            have hq : lGone gap last (b.take at_) now = false := by simp only [lGone, Bool.and_eq_false_iff, decide_eq_false_iff_not]; exact .inr (by omega)
            have F1 : Aside0 (lOut gap last (b.take at_) now = []) := ⟨by simp [lOut, hq]⟩
            have F2 : Aside0 (lCame gap last (b.take at_) now ys = b.take (at_ + ys.length)) := ⟨by simp only [lCame, hq, Bool.false_eq_true, if_false]; exact hyc⟩
            have F3 : Aside0 (lLast last now ys = now) := ⟨by unfold lLast; rw [if_pos (by omega)]⟩
            have hbt : (b.take at_).length ≤ 17592186044416 := by rw [List.length_take]; omega
            clear hq hyc hcutr hcutl hi0 hz0_ hz1_ hz2_
            generalize hy2 : b.take (at_ + ys.length) = came2 at F2; have HY2 := Aside0.mk hy2; clear hy2
            generalize hy1 : b.take at_ = came1 at F1 F2 HL hbt; clear hy1
            by_cases hiw : i < wl.length
            · have hiwb : decide ((i : Int) < (wl.length : Int)) = true := decide_eq_true (by omega)
              have hiwn : decide (i < wl.length) = true := decide_eq_true hiw
              obtain ⟨ad2, rfl, hx2⟩ := Kd.at_int HV2.out (i : Int) (by omega) (by omega)
              rw [Int.toNat_natCast] at hx2
              have hxb := rd_bd HW.out (i : Int)
              generalize rd wl (i : Int) = x at hx2 hxb
              obtain ⟨hxb0, hxb1⟩ := hxb
              by_cases hx : 0 < x
              · have hxpb : decide (0 < x) = true := decide_eq_true hx
                have hxr0 := Int.emod_nonneg x (show gap ≠ 0 by omega)
                have hxr1 := Int.emod_lt_of_pos x (show 0 < gap by omega)
                by_cases hfu : at_ + ys.length = b.length
                · have hfub : (((at_ : Int) + (ys.length : Int)) == (b.length : Int)) = true := by simp; omega
                  go_wp2_with (go_at_call 14; (refine (feed (fun k => k = w.heap.size) w.heap.size last gap last now came1 ys A' _ _ rfl HMB.out HL.out HVY.out hbt (by omega) (by omega) hln hl0 hln (by omega) [] came2 now F1.out F2.out F3.out).mono ?_; rintro e w3 ⟨v', rfl, HR3, HL3, HX3⟩; obtain ⟨A3, c3, rfl, _, _⟩ := HR3; have hlb2 : w3.cell? (ad2.add i) = some (.int .i64 x) := ((Ext.below (M := (fun k => k = w.heap.size)) (((Ext.refl _ w).alloc _).trans (HX.out.trans HX3)) (fun k hk => by omega)).cell (World.block_lt_of_cell? w _ hx2)).trans hx2; have HL3 := Aside0.mk HL3; have HX3 := Aside0.mk HX3; clear HL HVY F1 F2 F3))
                  all_goals go_roundw
                  all_goals first | (case measure => simp [intOf]; omega) | skip
                  all_goals (case rel => first | (exact ⟨now, now, i + 1, at_ + ys.length, rfl, by go_num, by go_num, by omega, by omega, by omega, by omega, by omega, by push_cast; omega, ⟨fun h => by first | rfl | (exfalso; omega)⟩, ⟨by rw [HY2.out]; exact HL3.out⟩, ⟨HX.out.trans HX3.out⟩⟩))
                · have hfub : (((at_ : Int) + (ys.length : Int)) == (b.length : Int)) = false := by simp; omega
                  go_wp2_with (go_at_call 14; (refine (feed (fun k => k = w.heap.size) w.heap.size last gap last now came1 ys A' _ _ rfl HMB.out HL.out HVY.out hbt (by omega) (by omega) hln hl0 hln (by omega) [] came2 now F1.out F2.out F3.out).mono ?_; rintro e w3 ⟨v', rfl, HR3, HL3, HX3⟩; obtain ⟨A3, c3, rfl, _, _⟩ := HR3; have hlb2 : w3.cell? (ad2.add i) = some (.int .i64 x) := ((Ext.below (M := (fun k => k = w.heap.size)) (((Ext.refl _ w).alloc _).trans (HX.out.trans HX3)) (fun k hk => by omega)).cell (World.block_lt_of_cell? w _ hx2)).trans hx2; have HL3 := Aside0.mk HL3; have HX3 := Aside0.mk HX3; clear HL HVY F1 F2 F3))
                  all_goals go_roundw
                  all_goals first | (case measure => simp [intOf]; omega) | skip
                  all_goals (case rel => first | (exact ⟨now + x % gap, now, i + 1, at_ + ys.length, rfl, by go_num, by go_num, by omega, by omega, by omega, by omega, by omega, by push_cast; omega, ⟨fun h => by first | rfl | (exfalso; omega)⟩, ⟨by rw [HY2.out]; exact HL3.out⟩, ⟨HX.out.trans HX3.out⟩⟩))
              · have hxpb : decide (0 < x) = false := decide_eq_false hx
                go_wp2_with (go_at_call 14; (refine (feed (fun k => k = w.heap.size) w.heap.size last gap last now came1 ys A' _ _ rfl HMB.out HL.out HVY.out hbt (by omega) (by omega) hln hl0 hln (by omega) [] came2 now F1.out F2.out F3.out).mono ?_; rintro e w3 ⟨v', rfl, HR3, HL3, HX3⟩; obtain ⟨A3, c3, rfl, _, _⟩ := HR3; have hlb2 : w3.cell? (ad2.add i) = some (.int .i64 x) := ((Ext.below (M := (fun k => k = w.heap.size)) (((Ext.refl _ w).alloc _).trans (HX.out.trans HX3)) (fun k hk => by omega)).cell (World.block_lt_of_cell? w _ hx2)).trans hx2; have HL3 := Aside0.mk HL3; have HX3 := Aside0.mk HX3; clear HL HVY F1 F2 F3))
                all_goals go_roundw
                all_goals first | (case measure => simp [intOf]; omega) | skip
                all_goals (case rel => first | (exact ⟨now, now, i + 1, at_ + ys.length, rfl, by go_num, by go_num, by omega, by omega, by omega, by omega, by omega, by push_cast; omega, ⟨fun h => by first | rfl | (exfalso; omega)⟩, ⟨by rw [HY2.out]; exact HL3.out⟩, ⟨HX.out.trans HX3.out⟩⟩))
            · have hiwb : decide ((i : Int) < (wl.length : Int)) = false := decide_eq_false (by omega)
              have hiwn : decide (i < wl.length) = false := decide_eq_false hiw
              go_wp2_with (go_at_call 14; (refine (feed (fun k => k = w.heap.size) w.heap.size last gap last now came1 ys A' _ _ rfl HMB.out HL.out HVY.out hbt (by omega) (by omega) hln hl0 hln (by omega) [] came2 now F1.out F2.out F3.out).mono ?_; rintro e w3 ⟨v', rfl, HR3, HL3, HX3⟩; obtain ⟨A3, c3, rfl, _, _⟩ := HR3; have hlb2 : True := trivial; have HL3 := Aside0.mk HL3; have HX3 := Aside0.mk HX3; clear HL HVY F1 F2 F3))
              all_goals go_roundw
              all_goals first | (case measure => simp [intOf]; omega) | skip
              all_goals (case rel => first | (exact ⟨now, now, i + 1, at_ + ys.length, rfl, by go_num, by go_num, by omega, by omega, by omega, by omega, by omega, by push_cast; omega, ⟨fun h => by first | rfl | (exfalso; omega)⟩, ⟨by rw [HY2.out]; exact HL3.out⟩, ⟨HX.out.trans HX3.out⟩⟩))
        · have hpb : decide (0 < p) = false := decide_eq_false hp
          go_upto_if 79 with (fail)
          go_cut [14] (fun v14 wc => ∃ n : Nat, v14 = .int .i64 n ∧ 1 ≤ n ∧ at_ + n ≤ b.length ∧ wr = wc)
          case first =>
            by_cases hq : (b.length : Int) - (at_ : Int) < (b.length : Int)
            · have hqb : decide ((b.length : Int) - (at_ : Int) < (b.length : Int)) = true := decide_eq_true hq
              go_wp2_with (fail)
              go_meet
              case rel => exact ⟨b.length - at_, by go_num, by omega, by omega, rfl⟩
            · have hqb : decide ((b.length : Int) - (at_ : Int) < (b.length : Int)) = false := decide_eq_false hq
              go_wp2_with (fail)
              go_meet
              case rel => exact ⟨b.length, rfl, by omega, by omega, rfl⟩
          case rest =>
            obtain ⟨n, rfl, hn1, hn2, rfl⟩ := hcut
            obtain ⟨i0, hi0, hz0_, hz1_, hz2_⟩ := info_parts PZ.info5
            obtain ⟨A', hcut1, hcutr, hcutl⟩ := print_mid_int (P := Try.prog) (k := .u8) 22 5 Try.underlying22 hi0 hz1_ A0 c0 b (at_ : Int) ((at_ : Int) + (n : Int)) (by omega) (by omega) (by omega) HC0.out
            have hys : ((b.take ((at_ : Int) + (n : Int)).toNat).drop (at_ : Int).toNat).length = n := by rw [List.length_drop, List.length_take]; omega
            have hyc : b.take at_ ++ (b.take ((at_ : Int) + (n : Int)).toNat).drop (at_ : Int).toNat = b.take (at_ + n) := by rw [show ((at_ : Int) + (n : Int)).toNat = at_ + n from by omega, Int.toNat_natCast]; exact take_more b at_ n
            generalize (b.take ((at_ : Int) + (n : Int)).toNat).drop (at_ : Int).toNat = ys at hcut1 hcutr hcutl hys hyc
            subst hys
            have HVY : Aside0 (Ever (fun k => k = w.heap.size) wr (fun W => Kd.C (Kd.int .u8) W A' ys.length ys)) := ⟨(Ever.old (M := (fun k => k = w.heap.size)) (HV0.out) (fun _ hb => Kd.C_below HV0.out hb) (fun k hk => by omega)).imp (fun W hW => Kd.C_of_reads (d := (0 : Int)) (h1 := fun _ => rfl) (hcutr W (Kd.reads_of_C hW))) |>.step (((Ext.refl _ w).alloc _).trans HX.out)⟩
            have hq : lGone gap last (b.take at_) now = false := by simp only [lGone, Bool.and_eq_false_iff, decide_eq_false_iff_not]; exact .inr (by omega)
            have F1 : Aside0 (lOut gap last (b.take at_) now = []) := ⟨by simp [lOut, hq]⟩
            have F2 : Aside0 (lCame gap last (b.take at_) now ys = b.take (at_ + ys.length)) := ⟨by simp only [lCame, hq, Bool.false_eq_true, if_false]; exact hyc⟩
            have F3 : Aside0 (lLast last now ys = now) := ⟨by unfold lLast; rw [if_pos (by omega)]⟩
            have hbt : (b.take at_).length ≤ 17592186044416 := by rw [List.length_take]; omega
            clear hq hyc hcutr hcutl hi0 hz0_ hz1_ hz2_
            generalize hy2 : b.take (at_ + ys.length) = came2 at F2; have HY2 := Aside0.mk hy2; clear hy2
            generalize hy1 : b.take at_ = came1 at F1 F2 HL hbt; clear hy1
            by_cases hiw : i < wl.length
            · have hiwb : decide ((i : Int) < (wl.length : Int)) = true := decide_eq_true (by omega)
              have hiwn : decide (i < wl.length) = true := decide_eq_true hiw
              obtain ⟨ad2, rfl, hx2⟩ := Kd.at_int HV2.out (i : Int) (by omega) (by omega)
              rw [Int.toNat_natCast] at hx2
              have hxb := rd_bd HW.out (i : Int)
              generalize rd wl (i : Int) = x at hx2 hxb
              obtain ⟨hxb0, hxb1⟩ := hxb
              by_cases hx : 0 < x
              · have hxpb : decide (0 < x) = true := decide_eq_true hx
                have hxr0 := Int.emod_nonneg x (show gap ≠ 0 by omega)
                have hxr1 := Int.emod_lt_of_pos x (show 0 < gap by omega)
                by_cases hfu : at_ + ys.length = b.length
                · have hfub : (((at_ : Int) + (ys.length : Int)) == (b.length : Int)) = true := by simp; omega
                  go_wp2_with (go_at_call 14; (refine (feed (fun k => k = w.heap.size) w.heap.size last gap last now came1 ys A' _ _ rfl HMB.out HL.out HVY.out hbt (by omega) (by omega) hln hl0 hln (by omega) [] came2 now F1.out F2.out F3.out).mono ?_; rintro e w3 ⟨v', rfl, HR3, HL3, HX3⟩; obtain ⟨A3, c3, rfl, _, _⟩ := HR3; have hlb2 : w3.cell? (ad2.add i) = some (.int .i64 x) := ((Ext.below (M := (fun k => k = w.heap.size)) (((Ext.refl _ w).alloc _).trans (HX.out.trans HX3)) (fun k hk => by omega)).cell (World.block_lt_of_cell? w _ hx2)).trans hx2; have HL3 := Aside0.mk HL3; have HX3 := Aside0.mk HX3; clear HL HVY F1 F2 F3))
                  all_goals go_roundw
                  all_goals first | (case measure => simp [intOf]; omega) | skip
                  all_goals (case rel => first | (exact ⟨now, now, i + 1, at_ + ys.length, rfl, by go_num, by go_num, by omega, by omega, by omega, by omega, by omega, by push_cast; omega, ⟨fun h => by first | rfl | (exfalso; omega)⟩, ⟨by rw [HY2.out]; exact HL3.out⟩, ⟨HX.out.trans HX3.out⟩⟩))
                · have hfub : (((at_ : Int) + (ys.length : Int)) == (b.length : Int)) = false := by simp; omega
                  go_wp2_with (go_at_call 14; (refine (feed (fun k => k = w.heap.size) w.heap.size last gap last now came1 ys A' _ _ rfl HMB.out HL.out HVY.out hbt (by omega) (by omega) hln hl0 hln (by omega) [] came2 now F1.out F2.out F3.out).mono ?_; rintro e w3 ⟨v', rfl, HR3, HL3, HX3⟩; obtain ⟨A3, c3, rfl, _, _⟩ := HR3; have hlb2 : w3.cell? (ad2.add i) = some (.int .i64 x) := ((Ext.below (M := (fun k => k = w.heap.size)) (((Ext.refl _ w).alloc _).trans (HX.out.trans HX3)) (fun k hk => by omega)).cell (World.block_lt_of_cell? w _ hx2)).trans hx2; have HL3 := Aside0.mk HL3; have HX3 := Aside0.mk HX3; clear HL HVY F1 F2 F3))
                  all_goals go_roundw
                  all_goals first | (case measure => simp [intOf]; omega) | skip
                  all_goals (case rel => first | (exact ⟨now + x % gap, now, i + 1, at_ + ys.length, rfl, by go_num, by go_num, by omega, by omega, by omega, by omega, by omega, by push_cast; omega, ⟨fun h => by first | rfl | (exfalso; omega)⟩, ⟨by rw [HY2.out]; exact HL3.out⟩, ⟨HX.out.trans HX3.out⟩⟩))
              · have hxpb : decide (0 < x) = false := decide_eq_false hx
                go_wp2_with (go_at_call 14; (refine (feed (fun k => k = w.heap.size) w.heap.size last gap last now came1 ys A' _ _ rfl HMB.out HL.out HVY.out hbt (by omega) (by omega) hln hl0 hln (by omega) [] came2 now F1.out F2.out F3.out).mono ?_; rintro e w3 ⟨v', rfl, HR3, HL3, HX3⟩; obtain ⟨A3, c3, rfl, _, _⟩ := HR3; have hlb2 : w3.cell? (ad2.add i) = some (.int .i64 x) := ((Ext.below (M := (fun k => k = w.heap.size)) (((Ext.refl _ w).alloc _).trans (HX.out.trans HX3)) (fun k hk => by omega)).cell (World.block_lt_of_cell? w _ hx2)).trans hx2; have HL3 := Aside0.mk HL3; have HX3 := Aside0.mk HX3; clear HL HVY F1 F2 F3))
                all_goals go_roundw
                all_goals first | (case measure => simp [intOf]; omega) | skip
                all_goals (case rel => first | (exact ⟨now, now, i + 1, at_ + ys.length, rfl, by go_num, by go_num, by omega, by omega, by omega, by omega, by omega, by push_cast; omega, ⟨fun h => by first | rfl | (exfalso; omega)⟩, ⟨by rw [HY2.out]; exact HL3.out⟩, ⟨HX.out.trans HX3.out⟩⟩))
            · have hiwb : decide ((i : Int) < (wl.length : Int)) = false := decide_eq_false (by omega)
              have hiwn : decide (i < wl.length) = false := decide_eq_false hiw
              go_wp2_with (go_at_call 14; (refine (feed (fun k => k = w.heap.size) w.heap.size last gap last now came1 ys A' _ _ rfl HMB.out HL.out HVY.out hbt (by omega) (by omega) hln hl0 hln (by omega) [] came2 now F1.out F2.out F3.out).mono ?_; rintro e w3 ⟨v', rfl, HR3, HL3, HX3⟩; obtain ⟨A3, c3, rfl, _, _⟩ := HR3; have hlb2 : True := trivial; have HL3 := Aside0.mk HL3; have HX3 := Aside0.mk HX3; clear HL HVY F1 F2 F3))
              all_goals go_roundw
              all_goals first | (case measure => simp [intOf]; omega) | skip
              all_goals (case rel => first | (exact ⟨now, now, i + 1, at_ + ys.length, rfl, by go_num, by go_num, by omega, by omega, by omega, by omega, by omega, by push_cast; omega, ⟨fun h => by first | rfl | (exfalso; omega)⟩, ⟨by rw [HY2.out]; exact HL3.out⟩, ⟨HX.out.trans HX3.out⟩⟩))
      · have hipb : decide ((i : Int) < (pl.length : Int)) = false := decide_eq_false (by omega)
        have hipn : decide (i < pl.length) = false := decide_eq_false hip
        go_upto_if 79 with (fail)
        go_cut [14] (fun v14 wc => ∃ n : Nat, v14 = .int .i64 n ∧ 1 ≤ n ∧ at_ + n ≤ b.length ∧ wr = wc)
        case first =>
          by_cases hq : (b.length : Int) - (at_ : Int) < (b.length : Int)
          · have hqb : decide ((b.length : Int) - (at_ : Int) < (b.length : Int)) = true := decide_eq_true hq
            go_wp2_with (fail)
            go_meet
            case rel => exact ⟨b.length - at_, by go_num, by omega, by omega, rfl⟩
          · have hqb : decide ((b.length : Int) - (at_ : Int) < (b.length : Int)) = false := decide_eq_false hq
            go_wp2_with (fail)
            go_meet
            case rel => exact ⟨b.length, rfl, by omega, by omega, rfl⟩
        case rest =>
          obtain ⟨n, rfl, hn1, hn2, rfl⟩ := hcut
          obtain ⟨i0, hi0, hz0_, hz1_, hz2_⟩ := info_parts PZ.info5
          obtain ⟨A', hcut1, hcutr, hcutl⟩ := print_mid_int (P := Try.prog) (k := .u8) 22 5 Try.underlying22 hi0 hz1_ A0 c0 b (at_ : Int) ((at_ : Int) + (n : Int)) (by omega) (by omega) (by omega) HC0.out
          have hys : ((b.take ((at_ : Int) + (n : Int)).toNat).drop (at_ : Int).toNat).length = n := by rw [List.length_drop, List.length_take]; omega
          have hyc : b.take at_ ++ (b.take ((at_ : Int) + (n : Int)).toNat).drop (at_ : Int).toNat = b.take (at_ + n) := by rw [show ((at_ : Int) + (n : Int)).toNat = at_ + n from by omega, Int.toNat_natCast]; exact take_more b at_ n
          generalize (b.take ((at_ : Int) + (n : Int)).toNat).drop (at_ : Int).toNat = ys at hcut1 hcutr hcutl hys hyc
          subst hys
          have HVY : Aside0 (Ever (fun k => k = w.heap.size) wr (fun W => Kd.C (Kd.int .u8) W A' ys.length ys)) := ⟨(Ever.old (M := (fun k => k = w.heap.size)) (HV0.out) (fun _ hb => Kd.C_below HV0.out hb) (fun k hk => by omega)).imp (fun W hW => Kd.C_of_reads (d := (0 : Int)) (h1 := fun _ => rfl) (hcutr W (Kd.reads_of_C hW))) |>.step (((Ext.refl _ w).alloc _).trans HX.out)⟩
          have hq : lGone gap last (b.take at_) now = false := by simp only [lGone, Bool.and_eq_false_iff, decide_eq_false_iff_not]; exact .inr (by omega)
          have F1 : Aside0 (lOut gap last (b.take at_) now = []) := ⟨by simp [lOut, hq]⟩
          have F2 : Aside0 (lCame gap last (b.take at_) now ys = b.take (at_ + ys.length)) := ⟨by simp only [lCame, hq, Bool.false_eq_true, if_false]; exact hyc⟩
          have F3 : Aside0 (lLast last now ys = now) := ⟨by unfold lLast; rw [if_pos (by omega)]⟩
          have hbt : (b.take at_).length ≤ 17592186044416 := by rw [List.length_take]; omega
          clear hq hyc hcutr hcutl hi0 hz0_ hz1_ hz2_
          generalize hy2 : b.take (at_ + ys.length) = came2 at F2; have HY2 := Aside0.mk hy2; clear hy2
          generalize hy1 : b.take at_ = came1 at F1 F2 HL hbt; clear hy1
          by_cases hiw : i < wl.length
          · have hiwb : decide ((i : Int) < (wl.length : Int)) = true := decide_eq_true (by omega)
            have hiwn : decide (i < wl.length) = true := decide_eq_true hiw
            obtain ⟨ad2, rfl, hx2⟩ := Kd.at_int HV2.out (i : Int) (by omega) (by omega)
            rw [Int.toNat_natCast] at hx2
            have hxb := rd_bd HW.out (i : Int)
            generalize rd wl (i : Int) = x at hx2 hxb
            obtain ⟨hxb0, hxb1⟩ := hxb
            by_cases hx : 0 < x
            · have hxpb : decide (0 < x) = true := decide_eq_true hx
              have hxr0 := Int.emod_nonneg x (show gap ≠ 0 by omega)
              have hxr1 := Int.emod_lt_of_pos x (show 0 < gap by omega)
              by_cases hfu : at_ + ys.length = b.length
              · have hfub : (((at_ : Int) + (ys.length : Int)) == (b.length : Int)) = true := by simp; omega
                go_wp2_with (go_at_call 14; (refine (feed (fun k => k = w.heap.size) w.heap.size last gap last now came1 ys A' _ _ rfl HMB.out HL.out HVY.out hbt (by omega) (by omega) hln hl0 hln (by omega) [] came2 now F1.out F2.out F3.out).mono ?_; rintro e w3 ⟨v', rfl, HR3, HL3, HX3⟩; obtain ⟨A3, c3, rfl, _, _⟩ := HR3; have hlb2 : w3.cell? (ad2.add i) = some (.int .i64 x) := ((Ext.below (M := (fun k => k = w.heap.size)) (((Ext.refl _ w).alloc _).trans (HX.out.trans HX3)) (fun k hk => by omega)).cell (World.block_lt_of_cell? w _ hx2)).trans hx2; have HL3 := Aside0.mk HL3; have HX3 := Aside0.mk HX3; clear HL HVY F1 F2 F3))
                all_goals go_roundw
                all_goals first | (case measure => simp [intOf]; omega) | skip
                all_goals (case rel => first | (exact ⟨now, now, i + 1, at_ + ys.length, rfl, by go_num, by go_num, by omega, by omega, by omega, by omega, by omega, by push_cast; omega, ⟨fun h => by first | rfl | (exfalso; omega)⟩, ⟨by rw [HY2.out]; exact HL3.out⟩, ⟨HX.out.trans HX3.out⟩⟩))
              · have hfub : (((at_ : Int) + (ys.length : Int)) == (b.length : Int)) = false := by simp; omega
                go_wp2_with (go_at_call 14; (refine (feed (fun k => k = w.heap.size) w.heap.size last gap last now came1 ys A' _ _ rfl HMB.out HL.out HVY.out hbt (by omega) (by omega) hln hl0 hln (by omega) [] came2 now F1.out F2.out F3.out).mono ?_; rintro e w3 ⟨v', rfl, HR3, HL3, HX3⟩; obtain ⟨A3, c3, rfl, _, _⟩ := HR3; have hlb2 : w3.cell? (ad2.add i) = some (.int .i64 x) := ((Ext.below (M := (fun k => k = w.heap.size)) (((Ext.refl _ w).alloc _).trans (HX.out.trans HX3)) (fun k hk => by omega)).cell (World.block_lt_of_cell? w _ hx2)).trans hx2; have HL3 := Aside0.mk HL3; have HX3 := Aside0.mk HX3; clear HL HVY F1 F2 F3))
                all_goals go_roundw
                all_goals first | (case measure => simp [intOf]; omega) | skip
                all_goals (case rel => first | (exact ⟨now + x % gap, now, i + 1, at_ + ys.length, rfl, by go_num, by go_num, by omega, by omega, by omega, by omega, by omega, by push_cast; omega, ⟨fun h => by first | rfl | (exfalso; omega)⟩, ⟨by rw [HY2.out]; exact HL3.out⟩, ⟨HX.out.trans HX3.out⟩⟩))
            · have hxpb : decide (0 < x) = false := decide_eq_false hx
              go_wp2_with (go_at_call 14; (refine (feed (fun k => k = w.heap.size) w.heap.size last gap last now came1 ys A' _ _ rfl HMB.out HL.out HVY.out hbt (by omega) (by omega) hln hl0 hln (by omega) [] came2 now F1.out F2.out F3.out).mono ?_; rintro e w3 ⟨v', rfl, HR3, HL3, HX3⟩; obtain ⟨A3, c3, rfl, _, _⟩ := HR3; have hlb2 : w3.cell? (ad2.add i) = some (.int .i64 x) := ((Ext.below (M := (fun k => k = w.heap.size)) (((Ext.refl _ w).alloc _).trans (HX.out.trans HX3)) (fun k hk => by omega)).cell (World.block_lt_of_cell? w _ hx2)).trans hx2; have HL3 := Aside0.mk HL3; have HX3 := Aside0.mk HX3; clear HL HVY F1 F2 F3))
              all_goals go_roundw
              all_goals first | (case measure => simp [intOf]; omega) | skip
              all_goals (case rel => first | (exact ⟨now, now, i + 1, at_ + ys.length, rfl, by go_num, by go_num, by omega, by omega, by omega, by omega, by omega, by push_cast; omega, ⟨fun h => by first | rfl | (exfalso; omega)⟩, ⟨by rw [HY2.out]; exact HL3.out⟩, ⟨HX.out.trans HX3.out⟩⟩))
          · have hiwb : decide ((i : Int) < (wl.length : Int)) = false := decide_eq_false (by omega)
            have hiwn : decide (i < wl.length) = false := decide_eq_false hiw
            go_wp2_with (go_at_call 14; (refine (feed (fun k => k = w.heap.size) w.heap.size last gap last now came1 ys A' _ _ rfl HMB.out HL.out HVY.out hbt (by omega) (by omega) hln hl0 hln (by omega) [] came2 now F1.out F2.out F3.out).mono ?_; rintro e w3 ⟨v', rfl, HR3, HL3, HX3⟩; obtain ⟨A3, c3, rfl, _, _⟩ := HR3; have hlb2 : True := trivial; have HL3 := Aside0.mk HL3; have HX3 := Aside0.mk HX3; clear HL HVY F1 F2 F3))
            all_goals go_roundw
            all_goals first | (case measure => simp [intOf]; omega) | skip
            all_goals (case rel => first | (exact ⟨now, now, i + 1, at_ + ys.length, rfl, by go_num, by go_num, by omega, by omega, by omega, by omega, by omega, by push_cast; omega, ⟨fun h => by first | rfl | (exfalso; omega)⟩, ⟨by rw [HY2.out]; exact HL3.out⟩, ⟨HX.out.trans HX3.out⟩⟩))
    · obtain rfl : at_ = b.length := by omega
      have hltb : decide ((b.length : Int) < (b.length : Int)) = false := decide_eq_false (by omega)
      have hltn : decide (b.length < b.length) = false := decide_eq_false (by omega)
      have hnl := HE.out rfl
      subst hnl
      rw [List.take_length] at HL
      clear HE
      have HV0r : Aside0 (Kd.C (Kd.int .u8) wr A0 b.length b) := ⟨Kd.C_below HV0.out HB.out⟩
      have G1 : Aside0 (lOut gap now b (now + gap - 1) = []) := ⟨by have : lGone gap now b (now + gap - 1) = false := (by simp only [lGone, Bool.and_eq_false_iff, decide_eq_false_iff_not]; exact .inr (by omega)); simp [lOut, this]⟩
      have G2 : Aside0 (lCame gap now b (now + gap - 1) [] = b) := ⟨by have : lGone gap now b (now + gap - 1) = false := (by simp only [lGone, Bool.and_eq_false_iff, decide_eq_false_iff_not]; exact .inr (by omega)); simp [lCame, this]⟩
      have hq2 : lGone gap now b (now + gap) = true := by simp only [lGone, Bool.and_eq_true, decide_eq_true_eq]; exact ⟨by omega, by omega⟩
      have G4 : Aside0 (lCame gap now b (now + gap) [] = []) := ⟨by simp [lCame, hq2]⟩
      have G5 : Aside0 (lOut gap now [] (now + gap) = []) := ⟨by simp [lOut, lGone]⟩
      have G6 : Aside0 (lCame gap now [] (now + gap) [] = []) := ⟨by simp [lCame, lGone]⟩
      have hlb : b.length ≤ 17592186044416 := by omega
      by_cases h256 : b.length ≤ 256
      · have h256b : decide (256 < (b.length : Int)) = false := decide_eq_false (by omega)
        have h256n : decide (256 < b.length) = false := decide_eq_false (by omega)
        have G3 : Aside0 (lOut gap now b (now + gap) = [b]) := ⟨by simp [lOut, hq2, h256]⟩
        clear hq2 h256
        have tok1 := Aside0.mk trivial
        have HMB1 := HMB; have HL1 := HL; clear HMB HL
        go_wp2_with (first | (go_at_call 15; have _t := tok1; (refine (wait (fun k => k = w.heap.size) w.heap.size now gap now (now + gap - 1) b _ rfl HMB1.out HL1.out hlb (by omega) (by omega) (by omega) (by omega) (by omega) [] b G1.out G2.out).mono ?_; rintro e w4 ⟨v1, rfl, HR, HLn, HXn⟩; obtain ⟨A_1, c_1, rfl, hc_, HR⟩ := HR; have HMB2 : Aside0 (∀ k, k = w.heap.size → k < w4.heap.size) := ⟨fun k hk => HXn.lt_ (HMB1.out k hk)⟩; have HL2 := Aside0.mk HLn; have HX1 : Aside0 (Ext (fun k => k = w.heap.size) wr w4) := ⟨HXn⟩; clear HL1 HMB1; clear tok1 _t; have tok2 := Aside0.mk trivial)) | (go_at_call 15; have _t := tok2; (refine (wait (fun k => k = w.heap.size) w.heap.size (now + gap - 1) gap now (now + gap) b _ rfl HMB2.out HL2.out hlb (by omega) (by omega) (by omega) (by omega) (by omega) [b] [] G3.out G4.out).mono ?_; rintro e w5 ⟨v2, rfl, HR, HLn, HXn⟩; obtain ⟨A_2, c_2, rfl, hc_, HR⟩ := HR; have HMB3 : Aside0 (∀ k, k = w.heap.size → k < w5.heap.size) := ⟨fun k hk => HXn.lt_ (HMB2.out k hk)⟩; have HL3 := Aside0.mk HLn; have HX2 : Aside0 (Ext (fun k => k = w.heap.size) wr w5) := ⟨HX1.out.trans HXn⟩; clear HL2 HMB2; have HR2 := Aside0.mk HR; clear tok2 _t; have tok3 := Aside0.mk trivial)) | (go_at_call 15; have _t := tok3; (refine (wait (fun k => k = w.heap.size) w.heap.size (now + gap) gap now (now + gap) [] _ rfl HMB3.out HL3.out (by simp) (by omega) (by omega) (by omega) (by omega) (by omega) [] [] G5.out G6.out).mono ?_; rintro e w6 ⟨v3, rfl, HR, HLn, HXn⟩; obtain ⟨A_3, c_3, rfl, hc_, HR⟩ := HR; have HMB4 : Aside0 (∀ k, k = w.heap.size → k < w6.heap.size) := ⟨fun k hk => HXn.lt_ (HMB3.out k hk)⟩; have HL4 := Aside0.mk HLn; have HX3 : Aside0 (Ext (fun k => k = w.heap.size) wr w6) := ⟨HX2.out.trans HXn⟩; clear HL3 HMB3; have HR3 : Aside0 (RowE (Kd.slice 5 (Kd.int .u8)) (fun k => k = w.heap.size) w6 A_2 _ [b]) := ⟨RowE.step HR2.out HXn⟩; clear HR2; clear tok3 _t; have tok4 := Aside0.mk trivial)) | (go_at_call 16; (refine (AwakeA.awake5 _).mono ?_; rintro e w7 ⟨rfl, HBa⟩; have HX7 : Aside0 (Ext (fun k => k = w.heap.size) wr w7) := ⟨HX3.out.then_below HBa⟩; have HR7 : Aside0 (RowE (Kd.slice 5 (Kd.int .u8)) (fun k => k = w.heap.size) w7 A_2 _ [b]) := ⟨RowE.step HR3.out (Ext.of_below HBa)⟩; clear HBa)) | (go_at_call 17; (refine (rows_true A_2 _ _ _ [b] _ ⟨Kd.C_alloc HR7.out.ever.now _⟩ ⟨lit1 rfl (Kd.C_below HV0.out (ever_below (HX.out.trans HX7.out))) HC0.out⟩).mono ?_; rintro e w' ⟨rfl, ⟨nd, rfl⟩⟩)))
        go_ret
        exact ⟨rfl, ever_below (HX.out.trans ((HX7.out.alloc _).drewN _))⟩
      · have h256b : decide (256 < (b.length : Int)) = true := decide_eq_true (by omega)
        have h256n : decide (256 < b.length) = true := decide_eq_true (by omega)
        have G3 : Aside0 (lOut gap now b (now + gap) = []) := ⟨by simp [lOut, hq2, h256]⟩
        clear hq2 h256
        have tok1 := Aside0.mk trivial
        have HMB1 := HMB; have HL1 := HL; clear HMB HL
        go_wp2_with (first | (go_at_call 15; have _t := tok1; (refine (wait (fun k => k = w.heap.size) w.heap.size now gap now (now + gap - 1) b _ rfl HMB1.out HL1.out hlb (by omega) (by omega) (by omega) (by omega) (by omega) [] b G1.out G2.out).mono ?_; rintro e w4 ⟨v1, rfl, HR, HLn, HXn⟩; obtain ⟨A_1, c_1, rfl, hc_, HR⟩ := HR; have HMB2 : Aside0 (∀ k, k = w.heap.size → k < w4.heap.size) := ⟨fun k hk => HXn.lt_ (HMB1.out k hk)⟩; have HL2 := Aside0.mk HLn; have HX1 : Aside0 (Ext (fun k => k = w.heap.size) wr w4) := ⟨HXn⟩; clear HL1 HMB1; clear tok1 _t; have tok2 := Aside0.mk trivial)) | (go_at_call 15; have _t := tok2; (refine (wait (fun k => k = w.heap.size) w.heap.size (now + gap - 1) gap now (now + gap) b _ rfl HMB2.out HL2.out hlb (by omega) (by omega) (by omega) (by omega) (by omega) [] [] G3.out G4.out).mono ?_; rintro e w5 ⟨v2, rfl, HR, HLn, HXn⟩; obtain ⟨A_2, c_2, rfl, hc_, HR⟩ := HR; have HMB3 : Aside0 (∀ k, k = w.heap.size → k < w5.heap.size) := ⟨fun k hk => HXn.lt_ (HMB2.out k hk)⟩; have HL3 := Aside0.mk HLn; have HX2 : Aside0 (Ext (fun k => k = w.heap.size) wr w5) := ⟨HX1.out.trans HXn⟩; clear HL2 HMB2; have HR2 := Aside0.mk HR; clear tok2 _t; have tok3 := Aside0.mk trivial)) | (go_at_call 15; have _t := tok3; (refine (wait (fun k => k = w.heap.size) w.heap.size (now + gap) gap now (now + gap) [] _ rfl HMB3.out HL3.out (by simp) (by omega) (by omega) (by omega) (by omega) (by omega) [] [] G5.out G6.out).mono ?_; rintro e w6 ⟨v3, rfl, HR, HLn, HXn⟩; obtain ⟨A_3, c_3, rfl, hc_, HR⟩ := HR; have HMB4 : Aside0 (∀ k, k = w.heap.size → k < w6.heap.size) := ⟨fun k hk => HXn.lt_ (HMB3.out k hk)⟩; have HL4 := Aside0.mk HLn; have HX3 : Aside0 (Ext (fun k => k = w.heap.size) wr w6) := ⟨HX2.out.trans HXn⟩; clear HL3 HMB3; have HR3 : Aside0 (RowE (Kd.slice 5 (Kd.int .u8)) (fun k => k = w.heap.size) w6 A_2 _ []) := ⟨RowE.step HR2.out HXn⟩; clear HR2; clear tok3 _t; have tok4 := Aside0.mk trivial)) | (go_at_call 16; (refine (AwakeA.awake5 _).mono ?_; rintro e w7 ⟨rfl, HBa⟩; have HX7 : Aside0 (Ext (fun k => k = w.heap.size) wr w7) := ⟨HX3.out.then_below HBa⟩; have HR7 : Aside0 (RowE (Kd.slice 5 (Kd.int .u8)) (fun k => k = w.heap.size) w7 A_2 _ []) := ⟨RowE.step HR3.out (Ext.of_below HBa)⟩; clear HBa)))
        go_ret
        exact ⟨rfl, ever_below (HX.out.trans HX7.out)⟩

set_option maxHeartbeats 8000000 in
set_option maxRecDepth 100000 in
theorem parts_walk (a0 : Int) (a1 : Option Addr) (len1 cap1 : Nat) (z1 : List Int) (a2 : Option Addr) (len2 cap2 : Nat) (z2 : List Int) (a3 : Option Addr) (len3 cap3 : Nat) (z3 : List Int) (w : World) (w0 : (Lit.int .i64 a0).wf = true) (w1 : (a1 = none ∧ len1 = 0 ∧ cap1 = 0 ∧ z1 = []) ∨ ∃ x, a1 = some x ∧ len1 ≤ cap1 ∧ cap1 ≤ maxLen ∧ z1.length = cap1 ∧ (∀ i, i < z1.length → w.cell? (x.add i) = some (.int .u8 (z1.getD i 0))) ∧ ∀ n ∈ z1, (Lit.int .u8 n).wf = true) (y1 : len1 * 1 ≤ 140737488351232) (w2 : (a2 = none ∧ len2 = 0 ∧ cap2 = 0 ∧ z2 = []) ∨ ∃ x, a2 = some x ∧ len2 ≤ cap2 ∧ cap2 ≤ maxLen ∧ z2.length = cap2 ∧ (∀ i, i < z2.length → w.cell? (x.add i) = some (.int .i64 (z2.getD i 0))) ∧ ∀ n ∈ z2, (Lit.int .i64 n).wf = true) (y2 : len2 * 8 ≤ 140737488351232) (w3 : (a3 = none ∧ len3 = 0 ∧ cap3 = 0 ∧ z3 = []) ∨ ∃ x, a3 = some x ∧ len3 ≤ cap3 ∧ cap3 ≤ maxLen ∧ z3.length = cap3 ∧ (∀ i, i < z3.length → w.cell? (x.add i) = some (.int .i64 (z3.getD i 0))) ∧ ∀ n ∈ z3, (Lit.int .i64 n).wf = true) (y3 : len3 * 8 ≤ 140737488351232) :
    Calls Try.prog 3 #[.int .i64 a0, .slice a1 len1 cap1, .slice a2 len2 cap2, .slice a3 len3 cap3] w fun e w' => e = .returned (.bool true) ∧ Below w.heap.size w w' := by
  obtain ⟨b0_0, b0_1⟩ := wf_i64 w0
  clear w0
  obtain ⟨l1, rfl, hr1_, hm1_, hw1_, hc1_⟩ := ReadsInt.ofRowC w1
  have HV1 := Aside0.mk (Kd.C_of_reads (enc := Value.int .u8) (d := (0 : Int)) (h1 := fun _ => rfl) hr1_); have HC1 := Aside0.mk hc1_; have hr1 : ∀ x ∈ l1, _ := fun x hx => wf_u8 (hw1_ x hx); have hy1 : l1.length ≤ 140737488351232 := by omega
  clear w1 hr1_ hm1_ hw1_ hc1_
  obtain ⟨l2, rfl, hr2_, hm2_, hw2_, hc2_⟩ := ReadsInt.ofRowC w2
  have HV2 := Aside0.mk (Kd.C_of_reads (enc := Value.int .i64) (d := (0 : Int)) (h1 := fun _ => rfl) hr2_); have HC2 := Aside0.mk hc2_; have hr2 : ∀ x ∈ l2, _ := fun x hx => wf_i64 (hw2_ x hx); have hy2 : l2.length ≤ 140737488351232 := by omega
  clear w2 hr2_ hm2_ hw2_ hc2_
  obtain ⟨l3, rfl, hr3_, hm3_, hw3_, hc3_⟩ := ReadsInt.ofRowC w3
  have HV3 := Aside0.mk (Kd.C_of_reads (enc := Value.int .i64) (d := (0 : Int)) (h1 := fun _ => rfl) hr3_); have HC3 := Aside0.mk hc3_; have hr3 : ∀ x ∈ l3, _ := fun x hx => wf_i64 (hw3_ x hx); have hy3 : l3.length ≤ 140737488351232 := by omega
  clear w3 hr3_ hm3_ hw3_ hc3_
  by_cases g1 : a0 < 1
  · have q1 : decide (a0 < 1) = true := decide_eq_true g1
    clear hr1 hr2 hr3
    go_enter Try.func3, Try.ntmps3
    go_wp2
    go_ret
    exact ⟨rfl, Below.refl _ _⟩
  have q1 : decide (a0 < 1) = false := decide_eq_false g1
  by_cases g2 : 1000 < a0
  · have q2 : decide (1000 < a0) = true := decide_eq_true g2
    clear hr1 hr2 hr3
    go_enter Try.func3, Try.ntmps3
    go_wp2
    go_ret
    exact ⟨rfl, Below.refl _ _⟩
  have q2 : decide (1000 < a0) = false := decide_eq_false g2
  by_cases g3 : l1.length < 1
  · have q3 : decide ((l1.length : Int) < 1) = true := decide_eq_true (by omega)
    have q3n : decide (l1.length < 1) = true := decide_eq_true g3
    clear hr1 hr2 hr3
    go_enter Try.func3, Try.ntmps3
    go_wp2
    go_ret
    exact ⟨rfl, Below.refl _ _⟩
  have q3 : decide ((l1.length : Int) < 1) = false := decide_eq_false (by omega)
  by_cases g4 : 600 < l1.length
  · have q4 : decide (600 < (l1.length : Int)) = true := decide_eq_true (by omega)
    have q4n : decide (600 < l1.length) = true := decide_eq_true g4
    clear hr1 hr2 hr3
    go_enter Try.func3, Try.ntmps3
    go_wp2
    go_ret
    exact ⟨rfl, Below.refl _ _⟩
  exact parts_main a0 a1 cap1 l1 a2 cap2 l2 a3 cap3 l3 w HV1 HC1 HV2 HC2 HV3 HC3 (by omega) (by omega) (by omega) (by omega) hr2 hr3
end Go.Proofs.Ytabjlanomebonaa.HandParts

/- Contracts of the document's examples (awake) of layers 1 and 2. -/
import Derived.Test.YtmbiofcibnpccaaPBx1
namespace Go.Proofs.Ytmbiofcibnpccaa.ExtD
open Go.RowKit Go.Proofs.YtmbiofcibnpccaaW.PrintWords Go.Proofs.YtmbiofcibnpccaaW.PrintLast Go.Proofs.YtmbiofcibnpccaaW.PrintMore Go.Proofs.Ytmbiofcibnpccaa.Ext Go.Proofs.Ytmbiofcibnpccaa.ExtC
set_option linter.unusedVariables false
set_option linter.unusedSimpArgs false

/-- A literal of bytes is read. -/
theorem lit_C (W : World) (xs : List Int) (h : xs.length ≤ 9223372036854775807) : Kd.C (Kd.int .u8) (W.alloc (.cells (nums .u8 xs).toArray 5)) (some ⟨W.heap.size, 0, none⟩) xs.length xs := by
  have h := own_lit W 0 5 .u8 xs (by omega) h
  obtain ⟨A, c, e, hr⟩ := own_reads h
  injection e with e1 e2 e3
  subst e1
  exact Kd.C_of_reads (d := (0 : Int)) (h1 := fun _ => rfl) hr

theorem litI_C (W : World) (xs : List Int) (h : xs.length ≤ 9223372036854775807) : Kd.C (Kd.int .i64) (W.alloc (.cells (nums .i64 xs).toArray 3)) (some ⟨W.heap.size, 0, none⟩) xs.length xs := by
  have h := own_lit W 0 3 .i64 xs (by omega) h
  obtain ⟨A, c, e, hr⟩ := own_reads h
  injection e with e1 e2 e3
  subst e1
  exact Kd.C_of_reads (d := (0 : Int)) (h1 := fun _ => rfl) hr
def basculelaw02_awake.f : Option Bool := some true
def basculelaw01_awake.f : Option Bool := some true
set_option maxHeartbeats 8000000 in
set_option maxRecDepth 1000000 in
theorem basculelaw02_awake.calls (r : Bool) (w : World) (h : basculelaw02_awake.f = some r) : Calls Try.prog 22 #[] w fun e w' => e = .returned (.bool r) ∧ Below w.heap.size w w' := by
  obtain rfl := Option.some.inj h
  have h1 : Aside0 (crc_Add.f [1, 4, 2, 255, 255] = some [1, 4, 2, 255, 255, 184, 128]) := ⟨by decide +kernel⟩
  have h2 : Aside0 (crc_Whole.f [255, 255] = some ([], 0)) := ⟨by decide +kernel⟩
  have h3 : Aside0 (crc_Sum.f [] = some 65535) := ⟨by decide +kernel⟩
  have h4 : Aside0 (crc_Good.f [184, 128] = some false) := ⟨by decide +kernel⟩
  have h5 : Aside0 (crc_Good.f [1, 4, 2, 255, 255, 184, 128] = some true) := ⟨by decide +kernel⟩
  have tok1 := Aside0.mk trivial
  go_enter Try.func22, Try.ntmps22
  go_wp2_with (first
    | (go_at_call 16; (refine (crc_Add.calls _ _ [1, 4, 2, 255, 255] _ _ (lit_C w [1, 4, 2, 255, 255] (by simp)) (by simp) h1.out).mono ?_; rintro e w1 ⟨v1, rfl, HR, HB⟩; obtain ⟨A1, c1, rfl, hc, HC⟩ := Kd.R_reads HR; have HC1 := Aside0.mk HC; have hc1 := Aside0.mk hc; have HB1 := Aside0.mk (below_step (below_alloc (Below.refl _ _) _) HB); clear HR HB HC hc))
    | (go_at_call 18; (refine (crc_Whole.calls _ _ [255, 255] _ _ _ (lit_C w1 [255, 255] (by simp)) (by simp) h2.out).mono ?_; rintro e w2 ⟨v2, rfl, HR, HB⟩; obtain ⟨A2, c2, rfl, hc, HC⟩ := Kd.R_reads HR; have HC2 := Aside0.mk (Kd.C_below (Kd.C_alloc HC1.out _) HB); have HB2 := Aside0.mk (below_step (below_alloc' HB1.out _) HB); clear HR HB HC hc HC1 HB1))
    | (go_at_call 15; (refine (crc_Sum.calls _ _ [] _ _ (Kd.C_nil _ _) (Nat.le_refl _) h3.out).mono ?_; rintro e w3 ⟨rfl, ⟨nd, rfl⟩⟩; have hcv : Sem.run Try.prog (convert 22 9 (Value.slice A1 7 c1)) (w2.drewN nd) = Result.ok (.string ⟨#[1, 4, 2, 255, 255, 184, 128]⟩) (w2.drewN nd) := string_of_reads (P := Try.prog) (c := c1) Try.underlying22 Try.underlying5 Try.underlying9 (Kd.reads_of_C (Kd.C_drewN HC2.out nd))))
    | (go_at_call 17; have _t := tok1; (refine (crc_Good.calls _ _ [184, 128] _ _ (lit_C (w2.drewN nd) [184, 128] (by simp)) (by simp) h4.out).mono ?_; rintro e w4 ⟨rfl, ⟨nd4, rfl⟩⟩; clear tok1 _t; have tok2 := Aside0.mk trivial))
    | (go_at_call 17; have _t := tok2; (refine (crc_Good.calls _ _ [1, 4, 2, 255, 255, 184, 128] _ _ (Kd.C_drewN (Kd.C_alloc (Kd.C_drewN HC2.out nd) _) _) hc1.out h5.out).mono ?_; rintro e w5 ⟨rfl, ⟨nd5, rfl⟩⟩)))
  go_ret
  exact ⟨rfl, pw_below_drewN (below_alloc' (pw_below_drewN HB2.out nd) _) _⟩
set_option maxHeartbeats 8000000 in
set_option maxRecDepth 1000000 in
theorem basculelaw01_awake.calls (r : Bool) (w : World) (h : basculelaw01_awake.f = some r) : Calls Try.prog 32 #[] w fun e w' => e = .returned (.bool r) ∧ Below w.heap.size w w' := by
  obtain rfl := Option.some.inj h
  have h1 : Aside0 (PB.wire_Put.f [7] 258 = some ([7, 1, 2], 0)) := ⟨by decide +kernel⟩
  have h2 : Aside0 (wire_At.f [7, 1, 2] 1 = some (258, 0)) := ⟨by decide +kernel⟩
  have h3 : Aside0 (wire_PutText.f [] ⟨#[97, 98]⟩ = some ([0, 2, 97, 98], 0)) := ⟨by decide +kernel⟩
  have h4 : Aside0 (wire_TextAt.f [0, 2, 97, 98] 0 = some (⟨#[97, 98]⟩, 4, 0)) := ⟨by decide +kernel⟩
  have h5 : Aside0 (PB.wire_Pack.f 8 [1, 0, 1] = some ([5], 0)) := ⟨by decide +kernel⟩
  go_enter Try.func32, Try.ntmps32
  go_wp2_with (first
    | (go_at_call 31; (refine (PB.wire_Put.calls _ _ [7] 258 _ _ _ (lit_C w [7] (by simp)) (by simp) h1.out).mono ?_; rintro e w1 ⟨v1, rfl, HR, HB⟩; obtain ⟨A1, c1, rfl, hc, HC⟩ := Kd.R_reads HR; have HC1 := Aside0.mk HC; have hc1 := Aside0.mk hc; have HB1 := Aside0.mk (below_step (below_alloc (Below.refl _ _) _) HB); clear HR HB HC hc))
    | (go_at_call 34; (refine (wire_At.calls A1 c1 [7, 1, 2] 1 _ _ _ HC1.out hc1.out h2.out).mono ?_; rintro e w2 ⟨rfl, ⟨nd, rfl⟩⟩))
    | (go_at_call 37; (refine (wire_PutText.calls none 0 [] _ _ _ _ (Kd.C_nil _ _) (Nat.le_refl _) h3.out).mono ?_; rintro e w3 ⟨v3, rfl, HR, HB⟩; obtain ⟨A3, c3, rfl, hc, HC⟩ := Kd.R_reads HR; have HC3 := Aside0.mk HC; have hc3 := Aside0.mk hc; have HC13 := Aside0.mk (Kd.C_below (Kd.C_drewN HC1.out _) HB); have HB3 := Aside0.mk (below_step (pw_below_drewN HB1.out _) HB); clear HR HB HC hc HB1))
    | (go_at_call 35; (refine (wire_TextAt.calls A3 c3 [0, 2, 97, 98] 0 _ _ _ _ HC3.out hc3.out h4.out).mono ?_; rintro e w4 ⟨rfl, ⟨nd4, rfl⟩⟩))
    | (go_at_call 39; (refine (PB.wire_Pack.calls 8 _ _ [1, 0, 1] _ _ _ (litI_C (w3.drewN nd4) [1, 0, 1] (by simp)) (by simp) h5.out).mono ?_; rintro e w5 ⟨v5, rfl, HR, HB⟩; obtain ⟨A5, c5, rfl, hc, HC⟩ := Kd.R_reads HR; have HC5 := Aside0.mk HC; have hc5 := Aside0.mk hc; have HC15 := Aside0.mk (Kd.C_below (Kd.C_alloc (Kd.C_drewN HC13.out _) _) HB); have HC35 := Aside0.mk (Kd.C_below (Kd.C_alloc (Kd.C_drewN HC3.out _) _) HB); have HB5 := Aside0.mk (below_step (below_alloc' (pw_below_drewN HB3.out _) _) HB); clear HR HB HC hc HB3; have hcv1 : Sem.run Try.prog (convert 22 9 (Value.slice A1 3 c1)) w5 = Result.ok (.string ⟨#[7, 1, 2]⟩) w5 := string_of_reads (P := Try.prog) (c := c1) Try.underlying22 Try.underlying5 Try.underlying9 (Kd.reads_of_C HC15.out); have hcv3 : Sem.run Try.prog (convert 22 9 (Value.slice A3 4 c3)) w5 = Result.ok (.string ⟨#[0, 2, 97, 98]⟩) w5 := string_of_reads (P := Try.prog) (c := c3) Try.underlying22 Try.underlying5 Try.underlying9 (Kd.reads_of_C HC35.out); have hcv5 : Sem.run Try.prog (convert 22 9 (Value.slice A5 1 c5)) w5 = Result.ok (.string ⟨#[5]⟩) w5 := string_of_reads (P := Try.prog) (c := c5) Try.underlying22 Try.underlying5 Try.underlying9 (Kd.reads_of_C HC5.out))))
  go_ret
  exact ⟨rfl, HB5.out⟩
end Go.Proofs.Ytmbiofcibnpccaa.ExtD

/- The walk of WirePuts: whatever the bytes and the number, the call returns true. -/
import Derived.Test.YtmbiofcibnpccaaMathC
namespace Go.Proofs.Ytmbiofcibnpccaa.HandC
open Go.RowKit Go.Proofs.YtmbiofcibnpccaaW.PrintWords Go.Proofs.YtmbiofcibnpccaaW.PrintLast Go.Proofs.YtmbiofcibnpccaaW.PrintMore Go.Proofs.Ytmbiofcibnpccaa.Ext Go.Proofs.Ytmbiofcibnpccaa.ExtC Go.Proofs.Ytmbiofcibnpccaa.ExtD Go.Proofs.Ytmbiofcibnpccaa.ExtE Go.Proofs.Ytmbiofcibnpccaa.PAll Go.Proofs.Ytmbiofcibnpccaa.PB Go.Proofs.Ytmbiofcibnpccaa.Math Go.Proofs.Ytmbiofcibnpccaa.MathC
set_option linter.unusedVariables false
set_option linter.unusedSimpArgs false

set_option maxHeartbeats 8000000 in
set_option maxRecDepth 1000000 in
theorem puts_yes (A0 : Option Addr) (c0 : Nat) (l0 : List Int) (n : Int) (w : World) (HC0 : Aside0 (Kd.C (Kd.int .u8) w A0 l0.length l0)) (hc0 : l0.length ≤ c0) (hl : l0.length ≤ 2000)
    (hs0 : Aside0 (basculelaw01_small.f l0 = some true)) (q : List Int) (fput : Aside0 (wire_Put.f l0 n = some (l0 ++ q, 0))) (fis : Aside0 (basculeref01_Is.f n = some true)) (fword : Aside0 (PA.basculeref01_Word.f n = some q)) (fboth : Aside0 (basculeref01_Both.f l0 q = some (l0 ++ q))) :
    Calls Try.prog 9 #[.slice A0 l0.length c0, .int .i64 n] w fun e w' => e = .returned (.bool true) ∧ Below w.heap.size w w' := by
  have faw : Aside0 (basculelaw01_awake.f = some true) := ⟨rfl⟩
  have HB0 := Aside0.mk (Below.refl w.heap.size w)
  obtain ⟨i0, hi, hz0, hz1, hz2⟩ := info_parts Ext.info5
  obtain ⟨r, hr⟩ : ∃ r, r = l0 ++ q := ⟨_, rfl⟩
  rw [← hr] at fput fboth
  clear hr
  go_enter Try.func9, Try.ntmps9
  go_wp2_with (first
    | (go_at_call 30; (refine (basculelaw01_small.calls A0 c0 l0 true _ HC0.out hc0 hs0.out).mono ?_; rintro e w' ⟨rfl, ⟨nd1, rfl⟩⟩))
    | ((with_reducible refine gate_builtin (b := .append) (xs := #[.tmp 11, .tmp 12]) rfl ?_); (refine wp_copy_lit rfl (.tmp 11) (.tmp 12) 22 5 .u8 rfl Try.underlying22 Ext.info5 l0 A0 c0 rfl rfl ?d1 ?d2 ?_; (case d1 => exact (by (with_reducible repeat (first | refine Kd.C_alloc ?_ _ | refine Kd.C_drewN ?_ _ | refine Kd.C_drew ?_)); exact HC0.out)); (case d2 => omega); intro A1 c1 w1 HC hc HB; have HC0 := Aside0.mk (Kd.C_below (by (with_reducible repeat (first | refine Kd.C_alloc ?_ _ | refine Kd.C_drewN ?_ _ | refine Kd.C_drew ?_)); exact HC0.out) HB); have HB0 := Aside0.mk (below_step (by repeat (first | exact HB0.out | apply below_alloc | apply pw_below_drewN | apply below_drew1 | apply below_drew)) HB); have HC1 := Aside0.mk HC; have hc1 := Aside0.mk hc; clear HC hc HB; have hcut := full3 (P := Try.prog) 22 5 .i64 .i64 Try.underlying22 hi hz1 A1 l0.length c1 hc1.out))
    | (go_at_call 31; (refine (wire_Put.calls A1 l0.length l0 n r 0 _ (by (with_reducible repeat (first | refine Kd.C_alloc ?_ _ | refine Kd.C_drewN ?_ _ | refine Kd.C_drew ?_)); exact HC1.out) (Nat.le_refl _) fput.out).mono ?_; rintro e w2 ⟨v, rfl, HR, HB⟩; obtain ⟨A2, c2, rfl, hc, HC⟩ := Kd.R_reads HR; have HC0 := Aside0.mk (Kd.C_below (by (with_reducible repeat (first | refine Kd.C_alloc ?_ _ | refine Kd.C_drewN ?_ _ | refine Kd.C_drew ?_)); exact HC0.out) HB); have HC1 := Aside0.mk (Kd.C_below (by (with_reducible repeat (first | refine Kd.C_alloc ?_ _ | refine Kd.C_drewN ?_ _ | refine Kd.C_drew ?_)); exact HC1.out) HB); have HB0 := Aside0.mk (below_step (by repeat (first | exact HB0.out | apply below_alloc | apply pw_below_drewN | apply below_drew1 | apply below_drew)) HB); have HC2 := Aside0.mk HC; have hc2 := Aside0.mk hc; clear HR HB HC hc; have hcv1 := (string_of_reads (P := Try.prog) (c := c1) Try.underlying22 Try.underlying5 Try.underlying9 (Kd.reads_of_C HC1.out)); have hcv0 := (string_of_reads (P := Try.prog) (c := c0) Try.underlying22 Try.underlying5 Try.underlying9 (Kd.reads_of_C HC0.out))))
    | (go_at_call 27; (refine (basculeref01_Is.calls n true _ fis.out).mono ?_; rintro e w' ⟨rfl, ⟨nd3, rfl⟩⟩))
    )
  refine start_ (n := 16) (S := fun W => Sem.run Try.prog (convert 22 9 (.slice A2 r.length c2)) W = .ok (.string (strOfNums r)) W) (ds := []) #[false, false, false, false, false, false, false, false, false, false, false, false, false, false, false, false] (by kernel_rfl) rfl rfl ?_ (fun hHeld => ?_)
  · exact (string_of_reads (P := Try.prog) (c := c2) Try.underlying22 Try.underlying5 Try.underlying9 (Kd.reads_of_C (by (with_reducible repeat (first | refine Kd.C_alloc ?_ _ | refine Kd.C_drewN ?_ _ | refine Kd.C_drew ?_)); exact HC2.out)))
  refine one_ (i := 0) (N := some 43) #[true, false, false, false, false, false, false, false, false, false, false, false, false, false, false, false] rfl rfl (by kernel_rfl) (by decide) (fun K hK => ?_)
  refine goes_ Try.func32 (by kernel_rfl) rfl #[] (by rfl) rfl rfl (by (try simp only [List.map_toArray, List.map_cons, List.map_nil]); first | done | rfl) ?_
  refine (basculelaw01_awake.calls true _ faw.out).mono ?_
  rintro e w4 ⟨rfl, HB⟩
  refine ⟨_, rfl, ?_⟩
  have HC0 := Aside0.mk (Kd.C_below (by (with_reducible repeat (first | refine Kd.C_alloc ?_ _ | refine Kd.C_drewN ?_ _ | refine Kd.C_drew ?_)); exact HC0.out) HB); have HC2 := Aside0.mk (Kd.C_below (by (with_reducible repeat (first | refine Kd.C_alloc ?_ _ | refine Kd.C_drewN ?_ _ | refine Kd.C_drew ?_)); exact HC2.out) HB); have HB0 := Aside0.mk (below_step (by repeat (first | exact HB0.out | apply below_alloc | apply pw_below_drewN | apply below_drew1 | apply below_drew)) HB); clear HB
  refine hK.out _ _ ?_ (fun hHeld => ?_)
  · exact (string_of_reads (P := Try.prog) (c := c2) Try.underlying22 Try.underlying5 Try.underlying9 (Kd.reads_of_C (by (with_reducible repeat (first | refine Kd.C_alloc ?_ _ | refine Kd.C_drewN ?_ _ | refine Kd.C_drew ?_)); exact HC2.out)))
  clear hK K
  refine norm_ (a' := ?_) ?_ ?_
  rotate_left
  · show Act.put _ (some 43) _ = _
    simp only [Act.put, List.setIfInBounds_toArray, List.set_cons_zero, List.set_cons_succ, i64_w, i32_w]
    rfl
  refine pure_ (i := 1) (N := some 44) (v := ?_) (a' := ?_) #[true, true, false, false, false, false, false, false, false, false, false, false, false, false, false, false] rfl rfl (by kernel_rfl) (fun _ _ _ h => h) (Or.inl ⟨by rfl, ?_⟩) ?_ ?_
  rotate_left
  · intro w'
    go_simp
    with_reducible rfl
  rotate_left
  · simp only [Act.put, List.setIfInBounds_toArray, List.set_cons_zero, List.set_cons_succ, i64_w, i32_w]
    rfl
  refine pure_ (i := 2) (N := some 45) (v := ?_) (a' := ?_) #[true, true, true, false, false, false, false, false, false, false, false, false, false, false, false, false] rfl rfl (by kernel_rfl) (fun _ _ _ h => h) (Or.inl ⟨by rfl, ?_⟩) ?_ ?_
  rotate_left
  · intro w'
    go_simp
    with_reducible rfl
  rotate_left
  · simp only [Act.put, List.setIfInBounds_toArray, List.set_cons_zero, List.set_cons_succ, i64_w, i32_w]
    rfl
  refine pure_ (i := 3) (N := some 46) (v := ?_) (a' := ?_) #[true, true, true, true, false, false, false, false, false, false, false, false, false, false, false, false] rfl rfl (by kernel_rfl) (fun _ _ _ h => h) (Or.inl ⟨by rfl, ?_⟩) ?_ ?_
  rotate_left
  · intro w'
    go_simp
    with_reducible rfl
  rotate_left
  · simp only [Act.put, List.setIfInBounds_toArray, List.set_cons_zero, List.set_cons_succ, i64_w, i32_w]
    rfl
  refine pure_ (i := 4) (N := some 47) (v := ?_) (a' := ?_) #[true, true, true, true, true, false, false, false, false, false, false, false, false, false, false, false] rfl rfl (by kernel_rfl) (fun _ _ _ h => h) (Or.inl ⟨by rfl, ?_⟩) ?_ ?_
  rotate_left
  · intro w'
    go_simp
    with_reducible rfl
  rotate_left
  · simp only [Act.put, List.setIfInBounds_toArray, List.set_cons_zero, List.set_cons_succ, i64_w, i32_w]
    rfl
  refine pure_ (i := 5) (N := some 48) (v := ?_) (a' := ?_) #[true, true, true, true, true, true, false, false, false, false, false, false, false, false, false, false] rfl rfl (by kernel_rfl) (fun _ _ _ h => h) (Or.inl ⟨by rfl, ?_⟩) ?_ ?_
  rotate_left
  · intro w'
    go_simp
    with_reducible rfl
  rotate_left
  · simp only [Act.put, List.setIfInBounds_toArray, List.set_cons_zero, List.set_cons_succ, i64_w, i32_w]
    rfl
  refine pure_ (i := 6) (N := some 49) (v := ?_) (a' := ?_) #[true, true, true, true, true, true, true, false, false, false, false, false, false, false, false, false] rfl rfl (by kernel_rfl) (fun _ _ _ h => h) (Or.inl ⟨by rfl, ?_⟩) ?_ ?_
  rotate_left
  · intro w'
    go_simp
    with_reducible rfl
  rotate_left
  · simp only [Act.put, List.setIfInBounds_toArray, List.set_cons_zero, List.set_cons_succ, i64_w, i32_w]
    rfl
  refine take_ (i := 7) (N := some 50) (v := ?_) (a' := ?_) #[true, true, true, true, true, true, true, true, false, false, false, false, false, false, false, false] rfl rfl (by kernel_rfl) (fun _ _ _ h => h) (Or.inl ⟨by rfl, ?_⟩) hHeld ?_ ?_
  rotate_left
  · intro w' hS_
    go_simp
    with_reducible rfl
  rotate_left
  · simp only [Act.put, List.setIfInBounds_toArray, List.set_cons_zero, List.set_cons_succ, i64_w, i32_w]
    rfl
  refine pure_ (i := 8) (N := some 51) (v := ?_) (a' := ?_) #[true, true, true, true, true, true, true, true, true, false, false, false, false, false, false, false] rfl rfl (by kernel_rfl) (fun _ _ _ h => h) (Or.inl ⟨by rfl, ?_⟩) ?_ ?_
  rotate_left
  · intro w'
    go_simp
    with_reducible rfl
  rotate_left
  · simp only [Act.put, List.setIfInBounds_toArray, List.set_cons_zero, List.set_cons_succ, i64_w, i32_w]
    rfl
  refine pure_ (i := 9) (N := some 52) (v := ?_) (a' := ?_) #[true, true, true, true, true, true, true, true, true, true, false, false, false, false, false, false] rfl rfl (by kernel_rfl) (fun _ _ _ h => h) (Or.inl ⟨by rfl, ?_⟩) ?_ ?_
  rotate_left
  · intro w'
    go_simp
    with_reducible rfl
  rotate_left
  · simp only [Act.put, List.setIfInBounds_toArray, List.set_cons_zero, List.set_cons_succ, i64_w, i32_w]
    rfl
  refine one_ (i := 10) (N := some 53) #[true, true, true, true, true, true, true, true, true, true, true, false, false, false, false, false] rfl rfl (by kernel_rfl) (by decide) (fun K hK => ?_)
  refine goes_ Try.func33 (by kernel_rfl) rfl #[.int .i64 n] (by rfl) rfl rfl (by (try simp only [List.map_toArray, List.map_cons, List.map_nil]); first | done | rfl) ?_
  refine (PA.basculeref01_Word.calls n q _ fword.out).mono ?_
  rintro e w5 ⟨v, rfl, HR, HB⟩; obtain ⟨A5, c5, rfl, hc, HC⟩ := Kd.R_reads HR
  refine ⟨_, rfl, ?_⟩
  have HC0 := Aside0.mk (Kd.C_below (by (with_reducible repeat (first | refine Kd.C_alloc ?_ _ | refine Kd.C_drewN ?_ _ | refine Kd.C_drew ?_)); exact HC0.out) HB); have HC2 := Aside0.mk (Kd.C_below (by (with_reducible repeat (first | refine Kd.C_alloc ?_ _ | refine Kd.C_drewN ?_ _ | refine Kd.C_drew ?_)); exact HC2.out) HB); have HB0 := Aside0.mk (below_step (by repeat (first | exact HB0.out | apply below_alloc | apply pw_below_drewN | apply below_drew1 | apply below_drew)) HB); have HC5 := Aside0.mk HC; have hc5 := Aside0.mk hc; clear HR HB HC hc
  refine hK.out _ _ ?_ (fun hHeld => ?_)
  · exact (string_of_reads (P := Try.prog) (c := c2) Try.underlying22 Try.underlying5 Try.underlying9 (Kd.reads_of_C (by (with_reducible repeat (first | refine Kd.C_alloc ?_ _ | refine Kd.C_drewN ?_ _ | refine Kd.C_drew ?_)); exact HC2.out)))
  clear hK K
  refine norm_ (a' := ?_) ?_ ?_
  rotate_left
  · show Act.put _ (some 53) _ = _
    simp only [Act.put, List.setIfInBounds_toArray, List.set_cons_zero, List.set_cons_succ, i64_w, i32_w]
    rfl
  refine one_ (i := 11) (N := some 54) #[true, true, true, true, true, true, true, true, true, true, true, true, false, false, false, false] rfl rfl (by kernel_rfl) (by decide) (fun K hK => ?_)
  refine goes_ Try.func29 (by kernel_rfl) rfl #[.slice A0 l0.length c0, .slice A5 q.length c5] (by rfl) rfl rfl (by (try simp only [List.map_toArray, List.map_cons, List.map_nil]); first | done | rfl) ?_
  refine (basculeref01_Both.calls A0 c0 l0 A5 c5 q r _ (by (with_reducible repeat (first | refine Kd.C_alloc ?_ _ | refine Kd.C_drewN ?_ _ | refine Kd.C_drew ?_)); exact HC0.out) hc0 (by (with_reducible repeat (first | refine Kd.C_alloc ?_ _ | refine Kd.C_drewN ?_ _ | refine Kd.C_drew ?_)); exact HC5.out) hc5.out fboth.out).mono ?_
  rintro e w6 ⟨v, rfl, HR, HB⟩; obtain ⟨A6, c6, rfl, hc, HC⟩ := Kd.R_reads HR
  refine ⟨_, rfl, ?_⟩
  have HC2 := Aside0.mk (Kd.C_below (by (with_reducible repeat (first | refine Kd.C_alloc ?_ _ | refine Kd.C_drewN ?_ _ | refine Kd.C_drew ?_)); exact HC2.out) HB); have HB0 := Aside0.mk (below_step (by repeat (first | exact HB0.out | apply below_alloc | apply pw_below_drewN | apply below_drew1 | apply below_drew)) HB); have HC6 := Aside0.mk HC; have hc6 := Aside0.mk hc; clear HR HB HC hc
  refine hK.out _ _ ?_ (fun hHeld => ?_)
  · exact (string_of_reads (P := Try.prog) (c := c2) Try.underlying22 Try.underlying5 Try.underlying9 (Kd.reads_of_C (by (with_reducible repeat (first | refine Kd.C_alloc ?_ _ | refine Kd.C_drewN ?_ _ | refine Kd.C_drew ?_)); exact HC2.out)))
  clear hK K
  refine norm_ (a' := ?_) ?_ ?_
  rotate_left
  · show Act.put _ (some 54) _ = _
    simp only [Act.put, List.setIfInBounds_toArray, List.set_cons_zero, List.set_cons_succ, i64_w, i32_w]
    rfl
  refine more1_ (S' := fun W => Sem.run Try.prog (convert 22 9 (.slice A2 r.length c2)) W = .ok (.string (strOfNums r)) W ∧ Sem.run Try.prog (convert 22 9 (.slice A6 r.length c6)) W = .ok (.string (strOfNums r)) W) (fun W h_ => h_.1) ?_ (fun hHeld => ?_)
  · exact ⟨(string_of_reads (P := Try.prog) (c := c2) Try.underlying22 Try.underlying5 Try.underlying9 (Kd.reads_of_C (by (with_reducible repeat (first | refine Kd.C_alloc ?_ _ | refine Kd.C_drewN ?_ _ | refine Kd.C_drew ?_)); exact HC2.out))), (string_of_reads (P := Try.prog) (c := c6) Try.underlying22 Try.underlying5 Try.underlying9 (Kd.reads_of_C (by (with_reducible repeat (first | refine Kd.C_alloc ?_ _ | refine Kd.C_drewN ?_ _ | refine Kd.C_drew ?_)); exact HC6.out)))⟩
  refine take_ (i := 12) (N := some 55) (v := ?_) (a' := ?_) #[true, true, true, true, true, true, true, true, true, true, true, true, true, false, false, false] rfl rfl (by kernel_rfl) (fun _ _ _ h => h) (Or.inl ⟨by rfl, ?_⟩) hHeld ?_ ?_
  rotate_left
  · intro w' hS_
    go_simp
    with_reducible rfl
  rotate_left
  · simp only [Act.put, List.setIfInBounds_toArray, List.set_cons_zero, List.set_cons_succ, i64_w, i32_w]
    rfl
  refine pure_ (i := 13) (N := some 56) (v := ?_) (a' := ?_) #[true, true, true, true, true, true, true, true, true, true, true, true, true, true, false, false] rfl rfl (by kernel_rfl) (fun _ _ _ h => h) (Or.inl ⟨by rfl, ?_⟩) ?_ ?_
  rotate_left
  · intro w'
    go_simp
    with_reducible rfl
  rotate_left
  · simp only [Act.put, List.setIfInBounds_toArray, List.set_cons_zero, List.set_cons_succ, i64_w, i32_w]
    rfl
  refine pure_ (i := 14) (N := some 57) (v := ?_) (a' := ?_) #[true, true, true, true, true, true, true, true, true, true, true, true, true, true, true, false] rfl rfl (by kernel_rfl) (fun _ _ _ h => h) (Or.inl ⟨by rfl, ?_⟩) ?_ ?_
  rotate_left
  · intro w'
    go_simp
    with_reducible rfl
  rotate_left
  · simp only [Act.put, List.setIfInBounds_toArray, List.set_cons_zero, List.set_cons_succ, i64_w, i32_w]
    rfl
  refine pure_ (i := 15) (N := some 4) (v := ?_) (a' := ?_) #[true, true, true, true, true, true, true, true, true, true, true, true, true, true, true, true] rfl rfl (by kernel_rfl) (fun _ _ _ h => h) (Or.inl ⟨by rfl, ?_⟩) ?_ ?_
  rotate_left
  · intro w'
    go_simp
    with_reducible rfl
  rotate_left
  · simp only [Act.put, List.setIfInBounds_toArray, List.set_cons_zero, List.set_cons_succ, i64_w, i32_w]
    rfl
  refine done_ (by kernel_rfl) ?_
  go_wp2
  go_ret
  exact ⟨rfl, (by repeat (first | exact HB0.out | apply below_alloc | apply pw_below_drewN | apply below_drew1 | apply below_drew))⟩

set_option maxHeartbeats 8000000 in
set_option maxRecDepth 1000000 in
theorem puts_no (A0 : Option Addr) (c0 : Nat) (l0 : List Int) (n : Int) (w : World) (HC0 : Aside0 (Kd.C (Kd.int .u8) w A0 l0.length l0)) (hc0 : l0.length ≤ c0) (hl : l0.length ≤ 2000)
    (hs0 : Aside0 (basculelaw01_small.f l0 = some true)) (fput : Aside0 (wire_Put.f l0 n = some ([], 1))) (fis : Aside0 (basculeref01_Is.f n = some false)) :
    Calls Try.prog 9 #[.slice A0 l0.length c0, .int .i64 n] w fun e w' => e = .returned (.bool true) ∧ Below w.heap.size w w' := by
  have faw : Aside0 (basculelaw01_awake.f = some true) := ⟨rfl⟩
  have HB0 := Aside0.mk (Below.refl w.heap.size w)
  obtain ⟨i0, hi, hz0, hz1, hz2⟩ := info_parts Ext.info5
  go_enter Try.func9, Try.ntmps9
  go_wp2_with (first
    | (go_at_call 30; (refine (basculelaw01_small.calls A0 c0 l0 true _ HC0.out hc0 hs0.out).mono ?_; rintro e w' ⟨rfl, ⟨nd1, rfl⟩⟩))
    | ((with_reducible refine gate_builtin (b := .append) (xs := #[.tmp 11, .tmp 12]) rfl ?_); (refine wp_copy_lit rfl (.tmp 11) (.tmp 12) 22 5 .u8 rfl Try.underlying22 Ext.info5 l0 A0 c0 rfl rfl ?d1 ?d2 ?_; (case d1 => exact (by (with_reducible repeat (first | refine Kd.C_alloc ?_ _ | refine Kd.C_drewN ?_ _ | refine Kd.C_drew ?_)); exact HC0.out)); (case d2 => omega); intro A1 c1 w1 HC hc HB; have HC0 := Aside0.mk (Kd.C_below (by (with_reducible repeat (first | refine Kd.C_alloc ?_ _ | refine Kd.C_drewN ?_ _ | refine Kd.C_drew ?_)); exact HC0.out) HB); have HB0 := Aside0.mk (below_step (by repeat (first | exact HB0.out | apply below_alloc | apply pw_below_drewN | apply below_drew1 | apply below_drew)) HB); have HC1 := Aside0.mk HC; have hc1 := Aside0.mk hc; clear HC hc HB; have hcut := full3 (P := Try.prog) 22 5 .i64 .i64 Try.underlying22 hi hz1 A1 l0.length c1 hc1.out))
    | (go_at_call 31; (refine (wire_Put.calls A1 l0.length l0 n [] 1 _ (by (with_reducible repeat (first | refine Kd.C_alloc ?_ _ | refine Kd.C_drewN ?_ _ | refine Kd.C_drew ?_)); exact HC1.out) (Nat.le_refl _) fput.out).mono ?_; rintro e w2 ⟨v, rfl, HR, HB⟩; obtain ⟨A2, c2, rfl, hc, HC⟩ := Kd.R_reads HR; have HC0 := Aside0.mk (Kd.C_below (by (with_reducible repeat (first | refine Kd.C_alloc ?_ _ | refine Kd.C_drewN ?_ _ | refine Kd.C_drew ?_)); exact HC0.out) HB); have HC1 := Aside0.mk (Kd.C_below (by (with_reducible repeat (first | refine Kd.C_alloc ?_ _ | refine Kd.C_drewN ?_ _ | refine Kd.C_drew ?_)); exact HC1.out) HB); have HB0 := Aside0.mk (below_step (by repeat (first | exact HB0.out | apply below_alloc | apply pw_below_drewN | apply below_drew1 | apply below_drew)) HB); have HC2 := Aside0.mk HC; have hc2 := Aside0.mk hc; clear HR HB HC hc; have hcv1 := (string_of_reads (P := Try.prog) (c := c1) Try.underlying22 Try.underlying5 Try.underlying9 (Kd.reads_of_C HC1.out)); have hcv0 := (string_of_reads (P := Try.prog) (c := c0) Try.underlying22 Try.underlying5 Try.underlying9 (Kd.reads_of_C HC0.out))))
    | (go_at_call 27; (refine (basculeref01_Is.calls n false _ fis.out).mono ?_; rintro e w' ⟨rfl, ⟨nd3, rfl⟩⟩))
    | (go_at_call 32; (refine (basculelaw01_awake.calls true _ faw.out).mono ?_; rintro e w4 ⟨rfl, HB⟩; have HC0 := Aside0.mk (Kd.C_below (by (with_reducible repeat (first | refine Kd.C_alloc ?_ _ | refine Kd.C_drewN ?_ _ | refine Kd.C_drew ?_)); exact HC0.out) HB); have HC2 := Aside0.mk (Kd.C_below (by (with_reducible repeat (first | refine Kd.C_alloc ?_ _ | refine Kd.C_drewN ?_ _ | refine Kd.C_drew ?_)); exact HC2.out) HB); have HB0 := Aside0.mk (below_step (by repeat (first | exact HB0.out | apply below_alloc | apply pw_below_drewN | apply below_drew1 | apply below_drew)) HB); clear HB))
    )
  go_ret
  exact ⟨rfl, (by repeat (first | exact HB0.out | apply below_alloc | apply pw_below_drewN | apply below_drew1 | apply below_drew))⟩

theorem puts_walk (a0 : Option Addr) (len0 cap0 : Nat) (z0 : List Int) (a1 : Int) (w : World)
    (w0 : (a0 = none ∧ len0 = 0 ∧ cap0 = 0 ∧ z0 = []) ∨ ∃ x, a0 = some x ∧ len0 ≤ cap0 ∧ cap0 ≤ maxLen ∧ z0.length = cap0 ∧ (∀ i, i < z0.length → w.cell? (x.add i) = some (.int .u8 (z0.getD i 0))) ∧ ∀ n ∈ z0, (Lit.int .u8 n).wf = true) (y0 : len0 * 1 ≤ 140737488351232)
    (w1 : (Lit.int .i64 a1).wf = true) :
    Calls Try.prog 9 #[.slice a0 len0 cap0, .int .i64 a1] w fun e w' => e = .returned (.bool true) ∧ Below w.heap.size w w' := by
  obtain ⟨l0, rfl, hr0, hm0, hw0, hc0⟩ := ReadsInt.ofRowC w0
  have HC0 := Aside0.mk (Kd.C_of_reads (d := (0 : Int)) (h1 := fun _ => rfl) hr0)
  have hb := bytes_of hw0
  by_cases h0 : l0.length ≤ 2000
  · have hs0 : Aside0 (basculelaw01_small.f l0 = some true) := ⟨small1 l0 true (by simp; omega)⟩
    by_cases hn : 0 ≤ a1 ∧ a1 ≤ 65535
    · exact puts_yes a0 cap0 l0 a1 w HC0 hc0 h0 hs0 [a1 / 256, a1 % 256] ⟨put_f l0 a1 hn (by omega)⟩ ⟨by rw [is_f]; simp [hn]⟩ ⟨word_f a1 hn⟩ ⟨both_f _ _ (by simp; omega)⟩
    · exact puts_no a0 cap0 l0 a1 w HC0 hc0 h0 hs0 ⟨put_no l0 a1 hn⟩ ⟨by rw [is_f]; simp only [Option.some.injEq, decide_eq_false_iff_not]; exact hn⟩
  · have hs0 : Aside0 (basculelaw01_small.f l0 = some false) := ⟨small1 l0 false (by simp; omega)⟩
    have HB0 := Aside0.mk (Below.refl w.heap.size w)
    go_enter Try.func9, Try.ntmps9
    go_wp2_with (first
          | (go_at_call 30; (refine (basculelaw01_small.calls a0 cap0 l0 false _ HC0.out hc0 hs0.out).mono ?_; rintro e w' ⟨rfl, ⟨nd1, rfl⟩⟩))
          )
    go_ret
    exact ⟨rfl, (by repeat (first | exact HB0.out | apply below_alloc | apply pw_below_drewN | apply below_drew1 | apply below_drew))⟩
end Go.Proofs.Ytmbiofcibnpccaa.HandC

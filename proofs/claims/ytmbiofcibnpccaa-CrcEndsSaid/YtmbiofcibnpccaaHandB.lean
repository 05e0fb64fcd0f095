/- The walk of CrcEnds: whatever the bytes, the call returns true. -/
import Derived.Test.YtmbiofcibnpccaaHandA
namespace Go.Proofs.Ytmbiofcibnpccaa.HandB
open Go.RowKit Go.Proofs.YtmbiofcibnpccaaW.PrintWords Go.Proofs.YtmbiofcibnpccaaW.PrintLast Go.Proofs.YtmbiofcibnpccaaW.PrintMore Go.Proofs.Ytmbiofcibnpccaa.Ext Go.Proofs.Ytmbiofcibnpccaa.ExtC Go.Proofs.Ytmbiofcibnpccaa.ExtD Go.Proofs.Ytmbiofcibnpccaa.PAll Go.Proofs.Ytmbiofcibnpccaa.Math Go.Proofs.Ytmbiofcibnpccaa.HandA
set_option linter.unusedVariables false
set_option linter.unusedSimpArgs false

/-- What is held of the world may be made stronger on the way. -/
theorem more_ {P : Program} {ops : Array Oper} {Q : Exit → Act → World → Prop} {md : Region.Mode} {S S' : World → Prop} (hS : ∀ w, S' w → S w) : ∀ (fuel : Nat) (l : Array Bool) (a : Act) (w : World),
    S' w → wpAnyLast P md ops Q S' [] fuel l a w → wpAnyLast P md ops Q S [] fuel l a w
  | 0, _, _, _, _, h => h
  | fuel + 1, l, a, w, hw, h => ⟨h.1, fun i hi => wpOp_mono (fun a' w' hh => ⟨fun hn _ => hS _ (hh.1 hn hw), more_ hS fuel _ a' w' (hh.1 (by simp) hw) hh.2⟩) (h.2 i hi)⟩

theorem more1_ {P : Program} {ops : Array Oper} {Q : Exit → Act → World → Prop} {md : Region.Mode} {S S' : World → Prop} {fuel : Nat} {l : Array Bool} {a : Act} {w : World} (hS : ∀ w, S' w → S w)
    (hw : S' w) (h : S' w → wpAnyLast P md ops Q S' [] fuel l a w) : wpAnyLast P md ops Q S [] fuel l a w := more_ hS fuel l a w hw (h hw)

set_option maxHeartbeats 8000000 in
set_option maxRecDepth 1000000 in
theorem ends_yes (A0 : Option Addr) (c0 : Nat) (l0 p : List Int) (w : World) (HC0 : Aside0 (Kd.C (Kd.int .u8) w A0 l0.length l0)) (hc0 : l0.length ≤ c0)
    (hs0 : Aside0 (basculelaw02_small.f l0 = some true)) (fwh : Aside0 (crc_Whole.f l0 = some (p, 0))) (fgood : Aside0 (crc_Good.f l0 = some true)) (fadd : Aside0 (crc_Add.f p = some l0)) :
    Calls Try.prog 7 #[.slice A0 l0.length c0] w fun e w' => e = .returned (.bool true) ∧ Below w.heap.size w w' := by
  have faw : Aside0 (basculelaw02_awake.f = some true) := ⟨rfl⟩
  have HB0 := Aside0.mk (Below.refl w.heap.size w)
  go_enter Try.func7, Try.ntmps7
  go_wp2_with (first
    | (go_at_call 14; (refine (basculelaw02_small.calls A0 c0 l0 true _ HC0.out hc0 hs0.out).mono ?_; rintro e w' ⟨rfl, ⟨nd1, rfl⟩⟩))
    | (go_at_call 18; (refine (crc_Whole.calls A0 c0 l0 p 0 _ (by (with_reducible repeat (first | refine Kd.C_alloc ?_ _ | refine Kd.C_drewN ?_ _ | refine Kd.C_drew ?_)); exact HC0.out) hc0 fwh.out).mono ?_; rintro e w2 ⟨v, rfl, HR, HB⟩; obtain ⟨A3, c3, rfl, hc, HC⟩ := Kd.R_reads HR; have HC0 := Aside0.mk (Kd.C_below (by (with_reducible repeat (first | refine Kd.C_alloc ?_ _ | refine Kd.C_drewN ?_ _ | refine Kd.C_drew ?_)); exact HC0.out) HB); have HB0 := Aside0.mk (below_step (by repeat (first | exact HB0.out | apply below_alloc | apply pw_below_drewN | apply below_drew1 | apply below_drew)) HB); have HC3 := Aside0.mk HC; have hc3 := Aside0.mk hc; clear HR HB HC hc))
    )
  refine start_ (n := 14) (S := fun W => Sem.run Try.prog (convert 22 9 (.slice A0 l0.length c0)) W = .ok (.string (strOfNums l0)) W) (ds := []) #[false, false, false, false, false, false, false, false, false, false, false, false, false, false] (by kernel_rfl) rfl rfl ?_ (fun hHeld => ?_)
  · exact (string_of_reads (P := Try.prog) (c := c0) Try.underlying22 Try.underlying5 Try.underlying9 (Kd.reads_of_C (by (with_reducible repeat (first | refine Kd.C_alloc ?_ _ | refine Kd.C_drewN ?_ _ | refine Kd.C_drew ?_)); exact HC0.out)))
  refine one_ (i := 0) (N := some 26) #[true, false, false, false, false, false, false, false, false, false, false, false, false, false] rfl rfl (by kernel_rfl) (by decide) (fun K hK => ?_)
  refine goes_ Try.func22 (by kernel_rfl) rfl #[] (by rfl) rfl rfl (by (try simp only [List.map_toArray, List.map_cons, List.map_nil]); first | done | rfl) ?_
  refine (basculelaw02_awake.calls true _ faw.out).mono ?_
  rintro e w3 ⟨rfl, HB⟩
  refine ⟨_, rfl, ?_⟩
  have HC0 := Aside0.mk (Kd.C_below (by (with_reducible repeat (first | refine Kd.C_alloc ?_ _ | refine Kd.C_drewN ?_ _ | refine Kd.C_drew ?_)); exact HC0.out) HB); have HC3 := Aside0.mk (Kd.C_below (by (with_reducible repeat (first | refine Kd.C_alloc ?_ _ | refine Kd.C_drewN ?_ _ | refine Kd.C_drew ?_)); exact HC3.out) HB); have HB0 := Aside0.mk (below_step (by repeat (first | exact HB0.out | apply below_alloc | apply pw_below_drewN | apply below_drew1 | apply below_drew)) HB); clear HB
  refine hK.out _ _ ?_ (fun hHeld => ?_)
  · exact (string_of_reads (P := Try.prog) (c := c0) Try.underlying22 Try.underlying5 Try.underlying9 (Kd.reads_of_C (by (with_reducible repeat (first | refine Kd.C_alloc ?_ _ | refine Kd.C_drewN ?_ _ | refine Kd.C_drew ?_)); exact HC0.out)))
  clear hK K
  refine norm_ (a' := ?_) ?_ ?_
  rotate_left
  · show Act.put _ (some 26) _ = _
    simp only [Act.put, List.setIfInBounds_toArray, List.set_cons_zero, List.set_cons_succ, i64_w, i32_w]
    rfl
  refine pure_ (i := 1) (N := some 27) (v := ?_) (a' := ?_) #[true, true, false, false, false, false, false, false, false, false, false, false, false, false] rfl rfl (by kernel_rfl) (fun _ _ _ h => h) (Or.inl ⟨by rfl, ?_⟩) ?_ ?_
  rotate_left
  · intro w'
    go_simp
    with_reducible rfl
  rotate_left
  · simp only [Act.put, List.setIfInBounds_toArray, List.set_cons_zero, List.set_cons_succ, i64_w, i32_w]
    rfl
  refine pure_ (i := 2) (N := some 28) (v := ?_) (a' := ?_) #[true, true, true, false, false, false, false, false, false, false, false, false, false, false] rfl rfl (by kernel_rfl) (fun _ _ _ h => h) (Or.inl ⟨by rfl, ?_⟩) ?_ ?_
  rotate_left
  · intro w'
    go_simp
    with_reducible rfl
  rotate_left
  · simp only [Act.put, List.setIfInBounds_toArray, List.set_cons_zero, List.set_cons_succ, i64_w, i32_w]
    rfl
  refine one_ (i := 3) (N := some 29) #[true, true, true, true, false, false, false, false, false, false, false, false, false, false] rfl rfl (by kernel_rfl) (by decide) (fun K hK => ?_)
  refine goes_ Try.func17 (by kernel_rfl) rfl #[.slice A0 l0.length c0] (by rfl) rfl rfl (by (try simp only [List.map_toArray, List.map_cons, List.map_nil]); first | done | rfl) ?_
  refine (crc_Good.calls A0 c0 l0 true _ (by (with_reducible repeat (first | refine Kd.C_alloc ?_ _ | refine Kd.C_drewN ?_ _ | refine Kd.C_drew ?_)); exact HC0.out) hc0 fgood.out).mono ?_
  rintro e w' ⟨rfl, ⟨nd5, rfl⟩⟩
  refine ⟨_, rfl, ?_⟩
  refine hK.out _ _ ?_ (fun hHeld => ?_)
  · exact (string_of_reads (P := Try.prog) (c := c0) Try.underlying22 Try.underlying5 Try.underlying9 (Kd.reads_of_C (by (with_reducible repeat (first | refine Kd.C_alloc ?_ _ | refine Kd.C_drewN ?_ _ | refine Kd.C_drew ?_)); exact HC0.out)))
  clear hK K
  refine norm_ (a' := ?_) ?_ ?_
  rotate_left
  · show Act.put _ (some 29) _ = _
    simp only [Act.put, List.setIfInBounds_toArray, List.set_cons_zero, List.set_cons_succ, i64_w, i32_w]
    rfl
  refine pure_ (i := 4) (N := some 30) (v := ?_) (a' := ?_) #[true, true, true, true, true, false, false, false, false, false, false, false, false, false] rfl rfl (by kernel_rfl) (fun _ _ _ h => h) (Or.inl ⟨by rfl, ?_⟩) ?_ ?_
  rotate_left
  · intro w'
    go_simp
    with_reducible rfl
  rotate_left
  · simp only [Act.put, List.setIfInBounds_toArray, List.set_cons_zero, List.set_cons_succ, i64_w, i32_w]
    rfl
  refine pure_ (i := 5) (N := some 31) (v := ?_) (a' := ?_) #[true, true, true, true, true, true, false, false, false, false, false, false, false, false] rfl rfl (by kernel_rfl) (fun _ _ _ h => h) (Or.inl ⟨by rfl, ?_⟩) ?_ ?_
  rotate_left
  · intro w'
    go_simp
    with_reducible rfl
  rotate_left
  · simp only [Act.put, List.setIfInBounds_toArray, List.set_cons_zero, List.set_cons_succ, i64_w, i32_w]
    rfl
  refine pure_ (i := 6) (N := some 32) (v := ?_) (a' := ?_) #[true, true, true, true, true, true, true, false, false, false, false, false, false, false] rfl rfl (by kernel_rfl) (fun _ _ _ h => h) (Or.inl ⟨by rfl, ?_⟩) ?_ ?_
  rotate_left
  · intro w'
    go_simp
    with_reducible rfl
  rotate_left
  · simp only [Act.put, List.setIfInBounds_toArray, List.set_cons_zero, List.set_cons_succ, i64_w, i32_w]
    rfl
  refine pure_ (i := 9) (N := some 35) (v := ?_) (a' := ?_) #[true, true, true, true, true, true, true, false, false, true, false, false, false, false] rfl rfl (by kernel_rfl) (fun _ _ _ h => h) (Or.inl ⟨by rfl, ?_⟩) ?_ ?_
  rotate_left
  · intro w'
    go_simp
    with_reducible rfl
  rotate_left
  · simp only [Act.put, List.setIfInBounds_toArray, List.set_cons_zero, List.set_cons_succ, i64_w, i32_w]
    rfl
  refine take_ (i := 10) (N := some 36) (v := ?_) (a' := ?_) #[true, true, true, true, true, true, true, false, false, true, true, false, false, false] rfl rfl (by kernel_rfl) (fun _ _ _ h => h) (Or.inl ⟨by rfl, ?_⟩) hHeld ?_ ?_
  rotate_left
  · intro w' hS_
    go_simp
    with_reducible rfl
  rotate_left
  · simp only [Act.put, List.setIfInBounds_toArray, List.set_cons_zero, List.set_cons_succ, i64_w, i32_w]
    rfl
  refine one_ (i := 7) (N := some 33) #[true, true, true, true, true, true, true, true, false, true, true, false, false, false] rfl rfl (by kernel_rfl) (by decide) (fun K hK => ?_)
  refine goes_ Try.func16 (by kernel_rfl) rfl #[.slice A3 p.length c3] (by rfl) rfl rfl (by (try simp only [List.map_toArray, List.map_cons, List.map_nil]); first | done | rfl) ?_
  refine (crc_Add.calls A3 c3 p l0 _ (by (with_reducible repeat (first | refine Kd.C_alloc ?_ _ | refine Kd.C_drewN ?_ _ | refine Kd.C_drew ?_)); exact HC3.out) hc3.out fadd.out).mono ?_
  rintro e w6 ⟨v, rfl, HR, HB⟩; obtain ⟨A6, c6, rfl, hc, HC⟩ := Kd.R_reads HR
  refine ⟨_, rfl, ?_⟩
  have HC0 := Aside0.mk (Kd.C_below (by (with_reducible repeat (first | refine Kd.C_alloc ?_ _ | refine Kd.C_drewN ?_ _ | refine Kd.C_drew ?_)); exact HC0.out) HB); have HB0 := Aside0.mk (below_step (by repeat (first | exact HB0.out | apply below_alloc | apply pw_below_drewN | apply below_drew1 | apply below_drew)) HB); have HC6 := Aside0.mk HC; have hc6 := Aside0.mk hc; clear HR HB HC hc
  refine hK.out _ _ ?_ (fun hHeld => ?_)
  · exact (string_of_reads (P := Try.prog) (c := c0) Try.underlying22 Try.underlying5 Try.underlying9 (Kd.reads_of_C (by (with_reducible repeat (first | refine Kd.C_alloc ?_ _ | refine Kd.C_drewN ?_ _ | refine Kd.C_drew ?_)); exact HC0.out)))
  clear hK K
  refine norm_ (a' := ?_) ?_ ?_
  rotate_left
  · show Act.put _ (some 33) _ = _
    simp only [Act.put, List.setIfInBounds_toArray, List.set_cons_zero, List.set_cons_succ, i64_w, i32_w]
    rfl
  refine more1_ (S' := fun W => Sem.run Try.prog (convert 22 9 (.slice A0 l0.length c0)) W = .ok (.string (strOfNums l0)) W ∧ Sem.run Try.prog (convert 22 9 (.slice A6 l0.length c6)) W = .ok (.string (strOfNums l0)) W) (fun W h_ => h_.1) ?_ (fun hHeld => ?_)
  · exact ⟨(string_of_reads (P := Try.prog) (c := c0) Try.underlying22 Try.underlying5 Try.underlying9 (Kd.reads_of_C (by (with_reducible repeat (first | refine Kd.C_alloc ?_ _ | refine Kd.C_drewN ?_ _ | refine Kd.C_drew ?_)); exact HC0.out))), (string_of_reads (P := Try.prog) (c := c6) Try.underlying22 Try.underlying5 Try.underlying9 (Kd.reads_of_C (by (with_reducible repeat (first | refine Kd.C_alloc ?_ _ | refine Kd.C_drewN ?_ _ | refine Kd.C_drew ?_)); exact HC6.out)))⟩
  refine take_ (i := 8) (N := some 34) (v := ?_) (a' := ?_) #[true, true, true, true, true, true, true, true, true, true, true, false, false, false] rfl rfl (by kernel_rfl) (fun _ _ _ h => h) (Or.inl ⟨by rfl, ?_⟩) hHeld ?_ ?_
  rotate_left
  · intro w' hS_
    go_simp
    with_reducible rfl
  rotate_left
  · simp only [Act.put, List.setIfInBounds_toArray, List.set_cons_zero, List.set_cons_succ, i64_w, i32_w]
    rfl
  refine pure_ (i := 11) (N := some 37) (v := ?_) (a' := ?_) #[true, true, true, true, true, true, true, true, true, true, true, true, false, false] rfl rfl (by kernel_rfl) (fun _ _ _ h => h) (Or.inl ⟨by rfl, ?_⟩) ?_ ?_
  rotate_left
  · intro w'
    go_simp
    with_reducible rfl
  rotate_left
  · simp only [Act.put, List.setIfInBounds_toArray, List.set_cons_zero, List.set_cons_succ, i64_w, i32_w]
    rfl
  refine pure_ (i := 12) (N := some 38) (v := ?_) (a' := ?_) #[true, true, true, true, true, true, true, true, true, true, true, true, true, false] rfl rfl (by kernel_rfl) (fun _ _ _ h => h) (Or.inl ⟨by rfl, ?_⟩) ?_ ?_
  rotate_left
  · intro w'
    go_simp
    with_reducible rfl
  rotate_left
  · simp only [Act.put, List.setIfInBounds_toArray, List.set_cons_zero, List.set_cons_succ, i64_w, i32_w]
    rfl
  refine pure_ (i := 13) (N := some 2) (v := ?_) (a' := ?_) #[true, true, true, true, true, true, true, true, true, true, true, true, true, true] rfl rfl (by kernel_rfl) (fun _ _ _ h => h) (Or.inl ⟨by rfl, ?_⟩) ?_ ?_
  rotate_left
  · intro w'
    go_simp
    with_reducible rfl
  rotate_left
  · simp only [Act.put, List.setIfInBounds_toArray, List.set_cons_zero, List.set_cons_succ, i64_w, i32_w]
    rfl
  refine done_ (by kernel_rfl) ?_
  go_wp2
  go_ret
  exact ⟨rfl, (by repeat (first | exact HB0.out | apply below_alloc | apply pw_below_drewN | apply below_drew1 | apply below_drew))⟩
set_option maxHeartbeats 8000000 in
set_option maxRecDepth 1000000 in
theorem ends_no (A0 : Option Addr) (c0 : Nat) (l0 : List Int) (w : World) (HC0 : Aside0 (Kd.C (Kd.int .u8) w A0 l0.length l0)) (hc0 : l0.length ≤ c0)
    (hs0 : Aside0 (basculelaw02_small.f l0 = some true)) (fwh : Aside0 (crc_Whole.f l0 = some ([], 20))) (fgood : Aside0 (crc_Good.f l0 = some false)) :
    Calls Try.prog 7 #[.slice A0 l0.length c0] w fun e w' => e = .returned (.bool true) ∧ Below w.heap.size w w' := by
  have faw : Aside0 (basculelaw02_awake.f = some true) := ⟨rfl⟩
  have HB0 := Aside0.mk (Below.refl w.heap.size w)
  go_enter Try.func7, Try.ntmps7
  go_wp2_with (first
    | (go_at_call 14; (refine (basculelaw02_small.calls A0 c0 l0 true _ HC0.out hc0 hs0.out).mono ?_; rintro e w' ⟨rfl, ⟨nd1, rfl⟩⟩))
    | (go_at_call 18; (refine (crc_Whole.calls A0 c0 l0 [] 20 _ (by (with_reducible repeat (first | refine Kd.C_alloc ?_ _ | refine Kd.C_drewN ?_ _ | refine Kd.C_drew ?_)); exact HC0.out) hc0 fwh.out).mono ?_; rintro e w2 ⟨v, rfl, HR, HB⟩; obtain ⟨A3, c3, rfl, hc, HC⟩ := Kd.R_reads HR; have HC0 := Aside0.mk (Kd.C_below (by (with_reducible repeat (first | refine Kd.C_alloc ?_ _ | refine Kd.C_drewN ?_ _ | refine Kd.C_drew ?_)); exact HC0.out) HB); have HB0 := Aside0.mk (below_step (by repeat (first | exact HB0.out | apply below_alloc | apply pw_below_drewN | apply below_drew1 | apply below_drew)) HB); have HC3 := Aside0.mk HC; have hc3 := Aside0.mk hc; clear HR HB HC hc))
    | (go_at_call 22; (refine (basculelaw02_awake.calls true _ faw.out).mono ?_; rintro e w3 ⟨rfl, HB⟩; have HC0 := Aside0.mk (Kd.C_below (by (with_reducible repeat (first | refine Kd.C_alloc ?_ _ | refine Kd.C_drewN ?_ _ | refine Kd.C_drew ?_)); exact HC0.out) HB); have HB0 := Aside0.mk (below_step (by repeat (first | exact HB0.out | apply below_alloc | apply pw_below_drewN | apply below_drew1 | apply below_drew)) HB); clear HB))
    | (go_at_call 17; (refine (crc_Good.calls A0 c0 l0 false _ (by (with_reducible repeat (first | refine Kd.C_alloc ?_ _ | refine Kd.C_drewN ?_ _ | refine Kd.C_drew ?_)); exact HC0.out) hc0 fgood.out).mono ?_; rintro e w' ⟨rfl, ⟨nd5, rfl⟩⟩))
    )
  go_ret
  exact ⟨rfl, (by repeat (first | exact HB0.out | apply below_alloc | apply pw_below_drewN | apply below_drew1 | apply below_drew))⟩

theorem ends_walk (a0 : Option Addr) (len0 cap0 : Nat) (z0 : List Int) (w : World)
    (w0 : (a0 = none ∧ len0 = 0 ∧ cap0 = 0 ∧ z0 = []) ∨ ∃ x, a0 = some x ∧ len0 ≤ cap0 ∧ cap0 ≤ maxLen ∧ z0.length = cap0 ∧ (∀ i, i < z0.length → w.cell? (x.add i) = some (.int .u8 (z0.getD i 0))) ∧ ∀ n ∈ z0, (Lit.int .u8 n).wf = true) (y0 : len0 * 1 ≤ 140737488351232) :
    Calls Try.prog 7 #[.slice a0 len0 cap0] w fun e w' => e = .returned (.bool true) ∧ Below w.heap.size w w' := by
  obtain ⟨l0, rfl, hr0, hm0, hw0, hc0⟩ := ReadsInt.ofRowC w0
  have HC0 := Aside0.mk (Kd.C_of_reads (d := (0 : Int)) (h1 := fun _ => rfl) hr0)
  have hb := bytes_of hw0
  by_cases h0 : l0.length ≤ 600
  · have hs0 : Aside0 (basculelaw02_small.f l0 = some true) := ⟨small2 l0 true (by simp; omega)⟩
    by_cases hg : 2 ≤ l0.length ∧ crcN 65535 l0 = 0
    · have e := crcN_ends l0 hb hg.1 hg.2
      have hbp : Bytes (l0.take (l0.length - 2)) := fun x hx => hb x (List.mem_of_mem_take hx)
      refine ends_yes a0 cap0 l0 (l0.take (l0.length - 2)) w HC0 hc0 hs0 ⟨whole_yes hb (by omega) hg⟩ ⟨by rw [good_f hb (by omega)]; simp [hg]⟩ ⟨?_⟩
      rw [add_f hbp (by rw [List.length_take]; omega), ← e]
    · exact ends_no a0 cap0 l0 w HC0 hc0 hs0 ⟨whole_no hb (by omega) hg⟩ ⟨by rw [good_f hb (by omega)]; simp only [Option.some.injEq, decide_eq_false_iff_not]; exact hg⟩
  · have hs0 : Aside0 (basculelaw02_small.f l0 = some false) := ⟨small2 l0 false (by simp; omega)⟩
    have HB0 := Aside0.mk (Below.refl w.heap.size w)
    go_enter Try.func7, Try.ntmps7
    go_wp2_with (first
          | (go_at_call 14; (refine (basculelaw02_small.calls a0 cap0 l0 false _ HC0.out hc0 hs0.out).mono ?_; rintro e w' ⟨rfl, ⟨nd1, rfl⟩⟩))
          )
    go_ret
    exact ⟨rfl, (by repeat (first | exact HB0.out | apply below_alloc | apply pw_below_drewN | apply below_drew1 | apply below_drew))⟩
end Go.Proofs.Ytmbiofcibnpccaa.HandB

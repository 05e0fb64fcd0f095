/- The walks of MasterOrder. (printed by gen_mst.py) -/
import Derived.Test.YtlalpooiegganaaZO4
namespace Go.Proofs.Ytlalpooiegganaa.HandOrder
open Go.RowKit Go.Proofs.YtlalpooiegganaaW.PrintWords Go.Proofs.YtlalpooiegganaaW.PrintLast Go.Proofs.YtlalpooiegganaaW.PrintMore Go.Proofs.Ytlalpooiegganaa.Core Go.Proofs.Ytlalpooiegganaa.Wk Go.Proofs.Ytlalpooiegganaa.PMasterWaits Go.Proofs.Ytlalpooiegganaa.Mst Go.Proofs.Ytlalpooiegganaa.MstB Go.Proofs.Ytlalpooiegganaa.MstC Go.Proofs.Ytlalpooiegganaa.MstD Go.Proofs.Ytlalpooiegganaa.MstE Go.Proofs.Ytlalpooiegganaa.MthW Go.Proofs.Ytlalpooiegganaa.MthO
set_option linter.unusedVariables false
set_option linter.unusedSimpArgs false

theorem meas {n N : Nat} (h : wrap64 ((n : Int) + 1) = ((n + 1 : Nat) : Int)) (h2 : n < N) : N + 1 - (intOf (.int .i64 (wrap64 ((n : Int) + 1)))).toNat < N + 1 - (intOf (.int .i64 (n : Int))).toNat := by
  rw [h]
  show N + 1 - (((n + 1 : Nat) : Int)).toNat < N + 1 - ((n : Int)).toNat
  rw [Int.toNat_natCast, Int.toNat_natCast]
  omega
theorem view_at {w : World} {A : Option Addr} {us : List Int} (hV : Kd.C (Kd.int .i64) w A us.length us) (k : Nat) (hk : k < us.length) : ∃ ad, A = some ad ∧ ∀ W, Below w.heap.size w W → W.cell? (ad.add k) = some (.int .i64 (us.getD k 0)) := by
  obtain ⟨ad, e, hx⟩ := Kd.at_int hV (k : Int) (by omega) (by omega)
  refine ⟨ad, e, fun W hW => ?_⟩
  rw [Int.toNat_natCast] at hx
  exact (hW.cell (World.block_lt_of_cell? w _ hx)).trans hx
theorem ask_o {B : Nat} {w : World} {g m k : Nat} {wt u : Int} {us : List Int} (h : IsM B w g m ⟨wt, 1, 0, 0, (k : Int), LL us k, none, 0, 0, fun _ => 0⟩) (hB : B ≤ w.heap.size) (hk : k < 60) (hu : us.getD k 0 = u) (h0 : 0 ≤ u) (h1 : u ≤ 247) : Calls Try.prog 11 #[.pointer (some ⟨g, 0, none⟩), .int .i64 u, .agg #[.int .i64 3, .int .i64 0, .int .i64 1, .slice none 0 0, .int .i64 0, .int .i64 0, .int .i64 0]] w fun e w' => e = .returned (.tuple #[.int .i64 (wrap64 ((k : Int) + 1)), .int .i64 0]) ∧ IsM B w' g m ⟨wt, 1, 0, 0, ((k + 1 : Nat) : Int), LL us (k + 1), none, 0, 0, fun _ => 0⟩ ∧ Below B w w' := by
  have h := ask_c h hB u h0 h1 (by rw [LL_len]; omega)
  have e : wrap64 ((k : Int) + 1) = ((k + 1 : Nat) : Int) := by rw [w_id _ (by omega) (by omega)]; omega
  refine h.mono (fun e' w' h => ?_)
  obtain ⟨a, b, c⟩ := h
  refine ⟨a, ?_, c⟩
  rw [e] at b
  rw [LL_snoc, hu]
  exact b

set_option maxHeartbeats 4000000 in
set_option maxRecDepth 100000 in
theorem out1 (wt : Int) (A : Option Addr) (c : Nat) (us : List Int) (A2 : Option Addr) (c2 : Nat) (ws : List Int) (w : World) (h : wt < 1) : Calls Try.prog 7 #[.int .i64 wt, .slice A us.length c, .slice A2 ws.length c2] w fun e w' => e = .returned (.bool true) ∧ Below w.heap.size w w' := by
  have q0 : decide (wt < 1) = true := decide_eq_true h
  clear h
  go_enter Try.func7, Try.ntmps7
  go_wp2
  go_ret
  exact ⟨rfl, Below.refl _ _⟩
set_option maxHeartbeats 4000000 in
set_option maxRecDepth 100000 in
theorem out2 (wt : Int) (A : Option Addr) (c : Nat) (us : List Int) (A2 : Option Addr) (c2 : Nat) (ws : List Int) (w : World) (h0 : 1 ≤ wt) (h : 1000 < wt) : Calls Try.prog 7 #[.int .i64 wt, .slice A us.length c, .slice A2 ws.length c2] w fun e w' => e = .returned (.bool true) ∧ Below w.heap.size w w' := by
  have q0 : decide (wt < 1) = false := decide_eq_false (by omega)
  have q1 : decide (1000 < wt) = true := decide_eq_true h
  clear h0 h
  go_enter Try.func7, Try.ntmps7
  go_wp2
  go_ret
  exact ⟨rfl, Below.refl _ _⟩
set_option maxHeartbeats 4000000 in
set_option maxRecDepth 100000 in
theorem out3 (wt : Int) (A : Option Addr) (c : Nat) (us : List Int) (A2 : Option Addr) (c2 : Nat) (ws : List Int) (w : World) (h0 : 1 ≤ wt) (h1 : wt ≤ 1000) (h : (60 : Int) < (us.length : Int)) : Calls Try.prog 7 #[.int .i64 wt, .slice A us.length c, .slice A2 ws.length c2] w fun e w' => e = .returned (.bool true) ∧ Below w.heap.size w w' := by
  have q0 : decide (wt < 1) = false := decide_eq_false (by omega)
  have q1 : decide (1000 < wt) = false := decide_eq_false (by omega)
  have q2 : decide ((60 : Int) < (us.length : Int)) = true := decide_eq_true h
  clear h0 h1 h
  go_enter Try.func7, Try.ntmps7
  go_wp2
  go_ret
  exact ⟨rfl, Below.refl _ _⟩
set_option maxHeartbeats 4000000 in
set_option maxRecDepth 100000 in
theorem order_c (wt : Int) (A : Option Addr) (c : Nat) (us : List Int) (A2 : Option Addr) (c2 : Nat) (ws : List Int) (w : World) (h0 : 1 ≤ wt) (h1 : wt ≤ 1000) (hl : us.length ≤ 60) (hV : Kd.C (Kd.int .i64) w A us.length us) (hV2 : Kd.C (Kd.int .i64) w A2 ws.length ws) : Calls Try.prog 7 #[.int .i64 wt, .slice A us.length c, .slice A2 ws.length c2] w fun e w' => e = .returned (.bool true) ∧ Below w.heap.size w w' := by
  have q0 : decide (wt < 1) = false := decide_eq_false (by omega)
  have q1 : decide (1000 < wt) = false := decide_eq_false (by omega)
  have q2 : decide ((60 : Int) < (us.length : Int)) = false := decide_eq_false (by omega)
  have HV := Aside0.mk hV; have HV2 := Aside0.mk hV2; have HL := Aside0.mk hl; have H0 := Aside0.mk h0; have H1 := Aside0.mk h1; clear hV hV2 hl h0 h1
  have hu39 := Try.underlying39
  go_enter Try.func7, Try.ntmps7
  go_wp2_with ((go_at_call 8; refine (new_c _ wt 1 0 H0.out (by decide) (by decide) (by decide)).mono ?_; rintro e w1 ⟨g, m, rfl, HI1, HB1⟩; have HI := Aside0.mk HI1; have HB := Aside0.mk HB1; clear HI1 HB1))
  clear q0 q1 q2
  go_loopw [9] (fun v wr => ∃ k : Nat, v = .int .i64 (k : Int) ∧ k ≤ us.length ∧ Aside0 (IsM w.heap.size wr g m ⟨wt, 1, 0, 0, (k : Int), LL us k, none, 0, 0, fun _ => 0⟩) ∧ Aside0 (Below w.heap.size w wr)) (fun v _ => us.length + 1 - (intOf v).toNat)
  case atStart => exact ⟨0, rfl, Nat.zero_le _, HI, HB⟩
  case round =>
    clear HI HB
    obtain ⟨k, rfl, hk, HI, HB⟩ := hrel
    have HK := Aside0.mk hk
    by_cases hlt : k < us.length
    case pos =>
      obtain ⟨ad, ead, hx⟩ := view_at HV.out k hlt
      subst ead
      obtain ⟨u, hu⟩ : ∃ u, us.getD k 0 = u := ⟨_, rfl⟩
      rw [hu] at hx
      have HCK := Aside0.mk hx; have HU := Aside0.mk hu; have lcu := hx wr HB.out; clear hx hu
      have c0 : decide ((k : Int) < (us.length : Int)) = true := decide_eq_true (by omega); have c0n : decide (k < us.length) = true := decide_eq_true hlt
      have HLT := Aside0.mk hlt; clear hk
      by_cases hu0 : u < 0
      · have e0 : decide (u < 0) = true := decide_eq_true hu0
        go_wp2
        go_ret
        exact ⟨rfl, HB.out⟩
      by_cases hu1 : 247 < u
      · have e0 : decide (u < 0) = false := decide_eq_false hu0
        have e1 : decide (247 < u) = true := decide_eq_true hu1
        go_wp2
        go_ret
        exact ⟨rfl, HB.out⟩
      have e0 : decide (u < 0) = false := decide_eq_false hu0; have e1 : decide (247 < u) = false := decide_eq_false hu1
      have HU0 := Aside0.mk hu0; have HU1 := Aside0.mk hu1; clear hu0 hu1
      have HBZ := HB
      go_upto_region 11 with (fail)
      clear lcu
      refine start_ (n := 12) (S := fun W => W.cell? (ad.add k) = some (.int .i64 u)) (ds := []) #[false, false, false, false, false, false, false, false, false, false, false, false] (by kernel_rfl) rfl rfl ?_ (fun hHeld => ?_)
      · exact HCK.out _ (by repeat (first | exact HBZ.out | apply pw_below_drewN | apply below_drew1 | apply below_alloc))
      refine pure_ (i := 0) (N := some 59) (v := ?_) (a' := ?_) #[true, false, false, false, false, false, false, false, false, false, false, false] rfl rfl (by kernel_rfl) (fun _ _ _ h => h) (Or.inl ⟨by rfl, ?_⟩) ?_ ?_
      rotate_left
      · intro w'
        go_simp
        with_reducible rfl
      rotate_left
      · simp only [Act.put, List.setIfInBounds_toArray, List.set_cons_zero, List.set_cons_succ, i64_w, i32_w]
        rfl
      refine pure_ (i := 1) (N := some 60) (v := ?_) (a' := ?_) #[true, true, false, false, false, false, false, false, false, false, false, false] rfl rfl (by kernel_rfl) (fun _ _ _ h => h) (Or.inl ⟨by rfl, ?_⟩) ?_ ?_
      rotate_left
      · intro w'
        go_simp
        with_reducible rfl
      rotate_left
      · simp only [Act.put, List.setIfInBounds_toArray, List.set_cons_zero, List.set_cons_succ, i64_w, i32_w]
        rfl
      refine pure_ (i := 2) (N := some 61) (v := ?_) (a' := ?_) #[true, true, true, false, false, false, false, false, false, false, false, false] rfl rfl (by kernel_rfl) (fun _ _ _ h => h) (Or.inl ⟨by rfl, ?_⟩) ?_ ?_
      rotate_left
      · intro w'
        go_simp
        with_reducible rfl
      rotate_left
      · simp only [Act.put, List.setIfInBounds_toArray, List.set_cons_zero, List.set_cons_succ, i64_w, i32_w]
        rfl
      refine take_ (i := 3) (N := some 62) (v := ?_) (a' := ?_) #[true, true, true, true, false, false, false, false, false, false, false, false] rfl rfl (by kernel_rfl) (fun _ _ _ h => h) (Or.inl ⟨by rfl, ?_⟩) hHeld ?_ ?_
      rotate_left
      · rintro w' s0
        go_simp
        with_reducible rfl
      rotate_left
      · simp only [Act.put, List.setIfInBounds_toArray, List.set_cons_zero, List.set_cons_succ, i64_w, i32_w]
        rfl
      refine take_ (i := 4) (N := some 63) (v := ?_) (a' := ?_) #[true, true, true, true, true, false, false, false, false, false, false, false] rfl rfl (by kernel_rfl) (fun _ _ _ h => h) (Or.inl ⟨by rfl, ?_⟩) hHeld ?_ ?_
      rotate_left
      · rintro w' s0
        go_simp
        with_reducible rfl
      rotate_left
      · simp only [Act.put, List.setIfInBounds_toArray, List.set_cons_zero, List.set_cons_succ, i64_w, i32_w]
        rfl
      refine one_ (i := 5) (N := some 64) #[true, true, true, true, true, true, false, false, false, false, false, false] rfl rfl (by kernel_rfl) (by decide) (fun K hK => ?_)
      refine goes_ Try.func17 (by kernel_rfl) rfl #[] (by rfl) rfl rfl (by (try simp only [List.map_toArray, List.map_cons, List.map_nil]); first | done | rfl) ?_
      refine (read_c _).mono ?_
      rintro e wa ⟨rfl, HBc⟩
      refine ⟨_, rfl, ?_⟩
      have HBd : Below wr.heap.size wr wa := below_step (by repeat (first | exact Below.refl _ _ | apply pw_below_drewN | apply below_drew1)) HBc
      have HIa := Aside0.mk (HI.out.below HBd); have HBa : Aside0 (Below w.heap.size w wa) := ⟨below_step HB.out HBd⟩
      clear HBZ HBc HBd
      have HBZ := HBa
      refine hK.out _ _ ?_ (fun hHeld => ?_)
      · exact HCK.out _ (by repeat (first | exact HBZ.out | apply pw_below_drewN | apply below_drew1 | apply below_alloc))
      clear hK K
      refine norm_ (a' := ?_) ?_ ?_
      rotate_left
      · show Act.put _ (some 64) _ = _
        simp only [Act.put, List.setIfInBounds_toArray, List.set_cons_zero, List.set_cons_succ, i64_w, i32_w]
        rfl
      refine one_ (i := 6) (N := some 65) #[true, true, true, true, true, true, true, false, false, false, false, false] rfl rfl (by kernel_rfl) (by decide) (fun K hK => ?_)
      refine goes_ Try.func11 (by kernel_rfl) rfl #[.pointer (some ⟨g, 0, none⟩), .int .i64 u, .agg #[.int .i64 3, .int .i64 0, .int .i64 1, .slice none 0 0, .int .i64 0, .int .i64 0, .int .i64 0]] (by rfl) rfl rfl (by (try simp only [List.map_toArray, List.map_cons, List.map_nil]); first | done | rfl) ?_
      refine (ask_o (HIa.out.below (by repeat (first | exact Below.refl _ _ | apply pw_below_drewN | apply below_drew1))) (Nat.le_trans HBa.out.size (below_size (by repeat (first | exact Below.refl _ _ | apply pw_below_drewN | apply below_drew1)))) (by have := HLT.out; have := HL.out; omega) HU.out (by have := HU0.out; omega) (by have := HU1.out; omega)).mono ?_
      rintro e wb ⟨rfl, HIx, HX⟩
      refine ⟨_, rfl, ?_⟩
      have HIb := Aside0.mk HIx; have HBb : Aside0 (Below w.heap.size w wb) := ⟨belowT (by repeat (first | exact HBZ.out | apply pw_below_drewN | apply below_drew1 | apply below_alloc)) HX⟩
      clear HBZ HIx HX
      have HBZ := HBb
      refine hK.out _ _ ?_ (fun hHeld => ?_)
      · exact HCK.out _ (by repeat (first | exact HBZ.out | apply pw_below_drewN | apply below_drew1 | apply below_alloc))
      clear hK K
      refine norm_ (a' := ?_) ?_ ?_
      rotate_left
      · show Act.put _ (some 65) _ = _
        simp only [Act.put, List.setIfInBounds_toArray, List.set_cons_zero, List.set_cons_succ, i64_w, i32_w]
        rfl
      refine pure_ (i := 7) (N := some 58) (v := ?_) (a' := ?_) #[true, true, true, true, true, true, true, true, false, false, false, false] rfl rfl (by kernel_rfl) (fun _ _ _ h => h) (Or.inl ⟨by rfl, ?_⟩) ?_ ?_
      rotate_left
      · intro w'
        go_simp
        with_reducible rfl
      rotate_left
      · simp only [Act.put, List.setIfInBounds_toArray, List.set_cons_zero, List.set_cons_succ, i64_w, i32_w]
        rfl
      refine pure_ (i := 8) (N := some 66) (v := ?_) (a' := ?_) #[true, true, true, true, true, true, true, true, true, false, false, false] rfl rfl (by kernel_rfl) (fun _ _ _ h => h) (Or.inl ⟨by rfl, ?_⟩) ?_ ?_
      rotate_left
      · intro w'
        go_simp
        with_reducible rfl
      rotate_left
      · simp only [Act.put, List.setIfInBounds_toArray, List.set_cons_zero, List.set_cons_succ, i64_w, i32_w]
        rfl
      refine pure_ (i := 9) (N := some 67) (v := ?_) (a' := ?_) #[true, true, true, true, true, true, true, true, true, true, false, false] rfl rfl (by kernel_rfl) (fun _ _ _ h => h) (Or.inl ⟨by rfl, ?_⟩) ?_ ?_
      rotate_left
      · intro w'
        go_simp
        with_reducible rfl
      rotate_left
      · simp only [Act.put, List.setIfInBounds_toArray, List.set_cons_zero, List.set_cons_succ, i64_w, i32_w]
        rfl
      refine pure_ (i := 10) (N := some 10) (v := ?_) (a' := ?_) #[true, true, true, true, true, true, true, true, true, true, true, false] rfl rfl (by kernel_rfl) (fun _ _ _ h => h) (Or.inl ⟨by rfl, ?_⟩) ?_ ?_
      rotate_left
      · intro w'
        go_simp
        with_reducible rfl
      rotate_left
      · simp only [Act.put, List.setIfInBounds_toArray, List.set_cons_zero, List.set_cons_succ, i64_w, i32_w]
        rfl
      refine pure_ (i := 11) (N := some 11) (v := ?_) (a' := ?_) #[true, true, true, true, true, true, true, true, true, true, true, true] rfl rfl (by kernel_rfl) (fun _ _ _ h => h) (Or.inl ⟨by rfl, ?_⟩) ?_ ?_
      rotate_left
      · intro w'
        go_simp
        with_reducible rfl
      rotate_left
      · simp only [Act.put, List.setIfInBounds_toArray, List.set_cons_zero, List.set_cons_succ, i64_w, i32_w]
        rfl
      refine done_ (by kernel_rfl) ?_
      go_wp2
      have HK1 : wrap64 ((k : Int) + 1) = ((k + 1 : Nat) : Int) := by rw [w_id _ (by omega) (by have := HLT.out; have := HL.out; omega)]; omega
      go_roundw
      case rel => exact ⟨k + 1, congrArg (Value.int .i64) HK1, HLT.out, HIb.out.below (by repeat (first | exact Below.refl _ _ | apply pw_below_drewN | apply below_drew1)) |> Aside0.mk, ⟨(by repeat (first | exact HBZ.out | apply pw_below_drewN | apply below_drew1 | apply below_alloc))⟩⟩
      case measure => exact meas HK1 HLT.out
    case neg =>
      obtain rfl : k = us.length := by omega
      have c0 : decide ((us.length : Int) < (us.length : Int)) = false := by simp
      clear hlt hk HK
      go_wp2_with (fail)
      go_loopw [12, 13, 14] (fun v12 v13 v14 wq => ∃ (now nx : Int) (j i : Nat), v12 = .int .i64 now ∧ v13 = .int .i64 nx ∧ v14 = .int .i64 (i : Int) ∧ Aside0 (nx = ((j + 1 : Nat) : Int) ∧ 0 ≤ now ∧ now ≤ 1000 * (i : Int) ∧ i ≤ 300 ∧ i ≤ ws.length ∧ j ≤ us.length) ∧ Aside0 (Inv w.heap.size wq g m wt us us.length j now) ∧ Aside0 (Below w.heap.size w wq)) (fun _ _ v _ => ws.length + 1 - (intOf v).toNat)
      case atStart => exact ⟨0, 1, 0, 0, rfl, rfl, rfl, ⟨rfl, Int.le_refl _, by omega, by omega, Nat.zero_le _, Nat.zero_le _⟩, ⟨⟨0, none, 0, 0, fun _ => 0, HI.out, Int.le_refl _, fun _ => Int.le_refl _, Nat.zero_le _, .inl rfl⟩⟩, HB⟩
      case round =>
        clear HI HB c0
        obtain ⟨now, nx, j, i, rfl, rfl, rfl, HA, HI, HB⟩ := hrel
        by_cases hi : ¬ (i < ws.length)
        · skip
          have c0 : decide ((i : Int) < (ws.length : Int)) = false := decide_eq_false (by omega); have c0n : decide (i < ws.length) = false := decide_eq_false hi
          go_wp2_with ((go_at_call 9; refine (MstH.awake_c _).mono ?_; rintro e w7 ⟨rfl, HBc⟩; have HB7 : Aside0 (Below w.heap.size w w7) := ⟨below_step HB.out HBc⟩; clear HBc))
          go_ret
          exact ⟨rfl, HB7.out⟩
        have hia := Decidable.of_not_not hi; clear hi
        by_cases hi : ¬ (i < 300)
        · skip
          have c0 : decide ((i : Int) < (ws.length : Int)) = true := decide_eq_true (by omega); have c0n : decide (i < ws.length) = true := decide_eq_true (by omega)
          have c1 : decide ((i : Int) < 300) = false := decide_eq_false (by omega); have c1n : decide (i < 300) = false := decide_eq_false hi
          go_wp2_with ((go_at_call 9; refine (MstH.awake_c _).mono ?_; rintro e w7 ⟨rfl, HBc⟩; have HB7 : Aside0 (Below w.heap.size w w7) := ⟨below_step HB.out HBc⟩; clear HBc))
          go_ret
          exact ⟨rfl, HB7.out⟩
        have hib := Decidable.of_not_not hi; clear hi
        have c0 : decide ((i : Int) < (ws.length : Int)) = true := decide_eq_true (by omega); have c0n : decide (i < ws.length) = true := decide_eq_true hia; have c1 : decide ((i : Int) < 300) = true := decide_eq_true (by omega); have c1n : decide (i < 300) = true := decide_eq_true hib
        have HIA := Aside0.mk hia; have HIB := Aside0.mk hib
        obtain ⟨ad2, ead2, hx2⟩ := view_at HV2.out i hia
        subst ead2
        generalize ws.getD i 0 = v at hx2
        have lcv := hx2 wr HB.out
        clear hx2 hib
        have HI1 : wrap64 ((i : Int) + 1) = ((i + 1 : Nat) : Int) := by rw [w_id _ (by omega) (by have := HIB.out; omega)]; omega
        have HI1A := Aside0.mk HI1; clear HI1
        by_cases hv : 0 < v
        · skip
          have hv2 : decide (0 < v) = true := decide_eq_true hv
          obtain ⟨t, ht⟩ : ∃ t, t = wrap64 (now + v % 1000) := ⟨_, rfl⟩
          have hmd : 0 ≤ v % 1000 ∧ v % 1000 < 1000 := by omega
          have ht2 : t = now + v % 1000 := by rw [ht]; exact w_id _ (by have := HA.out; omega) (by have := HA.out; have := HIB.out; omega)
          have HT : Aside0 (now ≤ t ∧ t ≤ 1000 * ((i + 1 : Nat) : Int)) := ⟨by have := HA.out; omega⟩
          clear hmd ht2
          go_upto_region 21 with (fail)
          rw [← ht]
          clear ht hv hv2 lcv
          rcases ord (t := t) HI.out HB.out.size HL.out HA.out.2.1 HT.out.1 (by have := HT.out; have := HIB.out; omega) with hs | ⟨hjn, hs⟩ | ⟨hj1, hs⟩
          · have HST := Aside0.mk hs; clear hs
            go_wp2_with ((go_at_call 12; refine HST.out.mono ?_; rintro e w6 ⟨vd, rfl, HIx, HX⟩; have HI6 := Aside0.mk HIx; have HB6 : Aside0 (Below w.heap.size w w6) := ⟨belowT HB.out HX⟩; clear HIx HX))
            go_roundw
            case rel => exact ⟨t, nx, j, i + 1, rfl, rfl, congrArg (Value.int .i64) HI1A.out, ⟨HA.out.1, by have := HA.out; have := HT.out; omega, HT.out.2, HIB.out, HIA.out, HA.out.2.2.2.2.2⟩, HI6, HB6⟩
            case measure => exact meas HI1A.out HIA.out
          · have HST := Aside0.mk hs; clear hs
            have hnx := HA.out.1; rw [← hnx] at HST
            have hwj : wrap64 (nx - 1) = (j : Int) := by rw [w_id _ (by omega) (by have := HL.out; omega)]; omega
            obtain ⟨ad, ead, hx⟩ := view_at HV.out j hjn
            subst ead
            generalize us.getD j 0 = u at hx HST
            have HCJ := Aside0.mk hx; clear hx
            have HNX := Aside0.mk hnx; have HWJ := Aside0.mk hwj; clear hnx hwj
            go_upto_region 27 with ((go_at_call 12; refine HST.out.mono ?_; rintro e w6 ⟨ga, ca, vd, rfl, hga, HIx, HX⟩; have HI6 := Aside0.mk HIx; have HB6 : Aside0 (Below w.heap.size w w6) := ⟨belowT HB.out HX⟩; clear HIx HX; have la0 : w6.cell? ⟨ga, 0, none⟩ = some (.int .i64 nx) := (blk_cell hga 0).trans rfl; have BKa := Aside0.mk hga; clear hga))
            clear la0
            have hwj := HWJ.out; have hjl := hjn
            refine start_ (n := 10) (S := fun W => W.cell? ⟨ga, 1, none⟩ = some (.int .i64 u) ∧ W.cell? (ad.add j) = some (.int .i64 u)) (ds := []) #[false, false, false, false, false, false, false, false, false, false] (by kernel_rfl) rfl rfl ?_ (fun hHeld => ?_)
            · exact ⟨(blk_cell (by (with_reducible repeat (first | refine blk_drewN ?_ _ | refine blk_drew ?_ | refine blk_alloc ?_ _)); exact BKa.out) 1).trans rfl, HCJ.out _ (by repeat (first | exact HB6.out | apply pw_below_drewN | apply below_drew1 | apply below_alloc))⟩
            refine pure_ (i := 0) (N := some 143) (v := ?_) (a' := ?_) #[true, false, false, false, false, false, false, false, false, false] rfl rfl (by kernel_rfl) (fun _ _ _ h => h) (Or.inl ⟨by rfl, ?_⟩) ?_ ?_
            rotate_left
            · intro w'
              go_simp
              with_reducible rfl
            rotate_left
            · simp only [Act.put, List.setIfInBounds_toArray, List.set_cons_zero, List.set_cons_succ, i64_w, i32_w, hwj]
              rfl
            refine take_ (i := 1) (N := some 144) (v := ?_) (a' := ?_) #[true, true, false, false, false, false, false, false, false, false] rfl rfl (by kernel_rfl) (fun _ _ _ h => h) (Or.inl ⟨by rfl, ?_⟩) hHeld ?_ ?_
            rotate_left
            · rintro w' ⟨s0, s1⟩
              go_simp
              with_reducible rfl
            rotate_left
            · simp only [Act.put, List.setIfInBounds_toArray, List.set_cons_zero, List.set_cons_succ, i64_w, i32_w, hwj]
              rfl
            refine pure_ (i := 2) (N := some 145) (v := ?_) (a' := ?_) #[true, true, true, false, false, false, false, false, false, false] rfl rfl (by kernel_rfl) (fun _ _ _ h => h) (Or.inl ⟨by rfl, ?_⟩) ?_ ?_
            rotate_left
            · intro w'
              go_simp
              with_reducible rfl
            rotate_left
            · simp only [Act.put, List.setIfInBounds_toArray, List.set_cons_zero, List.set_cons_succ, i64_w, i32_w, hwj]
              rfl
            refine take_ (i := 3) (N := some 146) (v := ?_) (a' := ?_) #[true, true, true, true, false, false, false, false, false, false] rfl rfl (by kernel_rfl) (fun _ _ _ h => h) (Or.inl ⟨by rfl, ?_⟩) hHeld ?_ ?_
            rotate_left
            · rintro w' ⟨s0, s1⟩
              go_simp
              with_reducible rfl
            rotate_left
            · simp only [Act.put, List.setIfInBounds_toArray, List.set_cons_zero, List.set_cons_succ, i64_w, i32_w, hwj]
              rfl
            refine pure_ (i := 4) (N := some 147) (v := ?_) (a' := ?_) #[true, true, true, true, true, false, false, false, false, false] rfl rfl (by kernel_rfl) (fun _ _ _ h => h) (Or.inl ⟨by rfl, ?_⟩) ?_ ?_
            rotate_left
            · intro w'
              go_simp
              with_reducible rfl
            rotate_left
            · simp only [Act.put, List.setIfInBounds_toArray, List.set_cons_zero, List.set_cons_succ, i64_w, i32_w, hwj]
              rfl
            refine pure_ (i := 5) (N := some 148) (v := ?_) (a' := ?_) #[true, true, true, true, true, true, false, false, false, false] rfl rfl (by kernel_rfl) (fun _ _ _ h => h) (Or.inl ⟨by rfl, ?_⟩) ?_ ?_
            rotate_left
            · intro w'
              go_simp
              with_reducible rfl
            rotate_left
            · simp only [Act.put, List.setIfInBounds_toArray, List.set_cons_zero, List.set_cons_succ, i64_w, i32_w, hwj]
              rfl
            refine pure_ (i := 6) (N := some 149) (v := ?_) (a' := ?_) #[true, true, true, true, true, true, true, false, false, false] rfl rfl (by kernel_rfl) (fun _ _ _ h => h) (Or.inl ⟨by rfl, ?_⟩) ?_ ?_
            rotate_left
            · intro w'
              go_simp
              with_reducible rfl
            rotate_left
            · simp only [Act.put, List.setIfInBounds_toArray, List.set_cons_zero, List.set_cons_succ, i64_w, i32_w, hwj]
              rfl
            refine take_ (i := 7) (N := some 150) (v := ?_) (a' := ?_) #[true, true, true, true, true, true, true, true, false, false] rfl rfl (by kernel_rfl) (fun _ _ _ h => h) (Or.inl ⟨by rfl, ?_⟩) hHeld ?_ ?_
            rotate_left
            · rintro w' ⟨s0, s1⟩
              go_simp
              with_reducible rfl
            rotate_left
            · simp only [Act.put, List.setIfInBounds_toArray, List.set_cons_zero, List.set_cons_succ, i64_w, i32_w, hwj]
              rfl
            refine take_ (i := 8) (N := some 151) (v := ?_) (a' := ?_) #[true, true, true, true, true, true, true, true, true, false] rfl rfl (by kernel_rfl) (fun _ _ _ h => h) (Or.inl ⟨by rfl, ?_⟩) hHeld ?_ ?_
            rotate_left
            · rintro w' ⟨s0, s1⟩
              go_simp
              with_reducible rfl
            rotate_left
            · simp only [Act.put, List.setIfInBounds_toArray, List.set_cons_zero, List.set_cons_succ, i64_w, i32_w, hwj]
              rfl
            refine pure_ (i := 9) (N := some 152) (v := ?_) (a' := ?_) #[true, true, true, true, true, true, true, true, true, true] rfl rfl (by kernel_rfl) (fun _ _ _ h => h) (Or.inl ⟨by rfl, ?_⟩) ?_ ?_
            rotate_left
            · intro w'
              go_simp
              with_reducible rfl
            rotate_left
            · simp only [Act.put, List.setIfInBounds_toArray, List.set_cons_zero, List.set_cons_succ, i64_w, i32_w, hwj]
              rfl
            refine done_ (by kernel_rfl) ?_
            clear hwj hjl
            go_wp2
            go_roundw
            case rel => exact ⟨t, _, j + 1, i + 1, rfl, rfl, congrArg (Value.int .i64) HI1A.out, ⟨by rw [w_id _ (by have := HNX.out; omega) (by have := HNX.out; have := HL.out; omega), HNX.out]; rfl, by have := HA.out; have := HT.out; omega, HT.out.2, HIB.out, HIA.out, hjn⟩, ⟨HI6.out.below (by repeat (first | exact Below.refl _ _ | apply pw_below_drewN | apply below_drew1))⟩, ⟨(by repeat (first | exact HB6.out | apply pw_below_drewN | apply below_drew1 | apply below_alloc))⟩⟩
            case measure => exact meas HI1A.out HIA.out
          · have HST := Aside0.mk hs; clear hs
            obtain ⟨tj, htj⟩ : ∃ tj : Int, tj = (j : Int) := ⟨_, rfl⟩; rw [← htj] at HST
            have e1 : (tj != nx) = true := bne_iff_ne.2 (by have := HA.out.1; omega); have e2 : (tj == nx) = false := beq_eq_false_iff_ne.2 (by have := HA.out.1; omega)
            have hwj : wrap64 (nx - 1) = tj := by have := HA.out.1; rw [w_id _ (by omega) (by have := HL.out; have := HA.out; omega)]; omega
            have e3 : (tj != wrap64 (nx - 1)) = false := by rw [hwj]; simp
            generalize us.getD (j - 1) 0 = u at HST
            clear htj hwj
            go_wp2_with ((go_at_call 12; refine HST.out.mono ?_; rintro e w6 ⟨ga, ca, vd, rfl, hga, HIx, HX⟩; have HI6 := Aside0.mk HIx; have HB6 : Aside0 (Below w.heap.size w w6) := ⟨belowT HB.out HX⟩; clear HIx HX; have la0 : w6.cell? ⟨ga, 0, none⟩ = some (.int .i64 tj) := (blk_cell hga 0).trans rfl; clear hga))
            go_roundw
            case rel => exact ⟨t, nx, j, i + 1, rfl, rfl, congrArg (Value.int .i64) HI1A.out, ⟨HA.out.1, by have := HA.out; have := HT.out; omega, HT.out.2, HIB.out, HIA.out, HA.out.2.2.2.2.2⟩, HI6, HB6⟩
            case measure => exact meas HI1A.out HIA.out
        have hv2 : decide (0 < v) = false := decide_eq_false hv
        obtain ⟨t, ht⟩ : ∃ t, t = now := ⟨_, rfl⟩
        have HT : Aside0 (now ≤ t ∧ t ≤ 1000 * ((i + 1 : Nat) : Int)) := ⟨by have := HA.out; omega⟩
        go_upto_region 21 with (fail)
        clear hv hv2 lcv ht HT
        obtain ⟨t, ht⟩ : ∃ t, t = now := ⟨_, rfl⟩
        have HT : Aside0 (now ≤ t ∧ t ≤ 1000 * ((i + 1 : Nat) : Int)) := ⟨by have := HA.out; omega⟩
        subst ht
        rcases ord (t := t) HI.out HB.out.size HL.out HA.out.2.1 HT.out.1 (by have := HT.out; have := HIB.out; omega) with hs | ⟨hjn, hs⟩ | ⟨hj1, hs⟩
        · have HST := Aside0.mk hs; clear hs
          go_wp2_with ((go_at_call 12; refine HST.out.mono ?_; rintro e w6 ⟨vd, rfl, HIx, HX⟩; have HI6 := Aside0.mk HIx; have HB6 : Aside0 (Below w.heap.size w w6) := ⟨belowT HB.out HX⟩; clear HIx HX))
          go_roundw
          case rel => exact ⟨t, nx, j, i + 1, rfl, rfl, congrArg (Value.int .i64) HI1A.out, ⟨HA.out.1, by have := HA.out; have := HT.out; omega, HT.out.2, HIB.out, HIA.out, HA.out.2.2.2.2.2⟩, HI6, HB6⟩
          case measure => exact meas HI1A.out HIA.out
        · have HST := Aside0.mk hs; clear hs
          have hnx := HA.out.1; rw [← hnx] at HST
          have hwj : wrap64 (nx - 1) = (j : Int) := by rw [w_id _ (by omega) (by have := HL.out; omega)]; omega
          obtain ⟨ad, ead, hx⟩ := view_at HV.out j hjn
          subst ead
          generalize us.getD j 0 = u at hx HST
          have HCJ := Aside0.mk hx; clear hx
          have HNX := Aside0.mk hnx; have HWJ := Aside0.mk hwj; clear hnx hwj
          go_upto_region 27 with ((go_at_call 12; refine HST.out.mono ?_; rintro e w6 ⟨ga, ca, vd, rfl, hga, HIx, HX⟩; have HI6 := Aside0.mk HIx; have HB6 : Aside0 (Below w.heap.size w w6) := ⟨belowT HB.out HX⟩; clear HIx HX; have la0 : w6.cell? ⟨ga, 0, none⟩ = some (.int .i64 nx) := (blk_cell hga 0).trans rfl; have BKa := Aside0.mk hga; clear hga))
          clear la0
          have hwj := HWJ.out; have hjl := hjn
          refine start_ (n := 10) (S := fun W => W.cell? ⟨ga, 1, none⟩ = some (.int .i64 u) ∧ W.cell? (ad.add j) = some (.int .i64 u)) (ds := []) #[false, false, false, false, false, false, false, false, false, false] (by kernel_rfl) rfl rfl ?_ (fun hHeld => ?_)
          · exact ⟨(blk_cell (by (with_reducible repeat (first | refine blk_drewN ?_ _ | refine blk_drew ?_ | refine blk_alloc ?_ _)); exact BKa.out) 1).trans rfl, HCJ.out _ (by repeat (first | exact HB6.out | apply pw_below_drewN | apply below_drew1 | apply below_alloc))⟩
          refine pure_ (i := 0) (N := some 143) (v := ?_) (a' := ?_) #[true, false, false, false, false, false, false, false, false, false] rfl rfl (by kernel_rfl) (fun _ _ _ h => h) (Or.inl ⟨by rfl, ?_⟩) ?_ ?_
          rotate_left
          · intro w'
            go_simp
            with_reducible rfl
          rotate_left
          · simp only [Act.put, List.setIfInBounds_toArray, List.set_cons_zero, List.set_cons_succ, i64_w, i32_w, hwj]
            rfl
          refine take_ (i := 1) (N := some 144) (v := ?_) (a' := ?_) #[true, true, false, false, false, false, false, false, false, false] rfl rfl (by kernel_rfl) (fun _ _ _ h => h) (Or.inl ⟨by rfl, ?_⟩) hHeld ?_ ?_
          rotate_left
          · rintro w' ⟨s0, s1⟩
            go_simp
            with_reducible rfl
          rotate_left
          · simp only [Act.put, List.setIfInBounds_toArray, List.set_cons_zero, List.set_cons_succ, i64_w, i32_w, hwj]
            rfl
          refine pure_ (i := 2) (N := some 145) (v := ?_) (a' := ?_) #[true, true, true, false, false, false, false, false, false, false] rfl rfl (by kernel_rfl) (fun _ _ _ h => h) (Or.inl ⟨by rfl, ?_⟩) ?_ ?_
          rotate_left
          · intro w'
            go_simp
            with_reducible rfl
          rotate_left
          · simp only [Act.put, List.setIfInBounds_toArray, List.set_cons_zero, List.set_cons_succ, i64_w, i32_w, hwj]
            rfl
          refine take_ (i := 3) (N := some 146) (v := ?_) (a' := ?_) #[true, true, true, true, false, false, false, false, false, false] rfl rfl (by kernel_rfl) (fun _ _ _ h => h) (Or.inl ⟨by rfl, ?_⟩) hHeld ?_ ?_
          rotate_left
          · rintro w' ⟨s0, s1⟩
            go_simp
            with_reducible rfl
          rotate_left
          · simp only [Act.put, List.setIfInBounds_toArray, List.set_cons_zero, List.set_cons_succ, i64_w, i32_w, hwj]
            rfl
          refine pure_ (i := 4) (N := some 147) (v := ?_) (a' := ?_) #[true, true, true, true, true, false, false, false, false, false] rfl rfl (by kernel_rfl) (fun _ _ _ h => h) (Or.inl ⟨by rfl, ?_⟩) ?_ ?_
          rotate_left
          · intro w'
            go_simp
            with_reducible rfl
          rotate_left
          · simp only [Act.put, List.setIfInBounds_toArray, List.set_cons_zero, List.set_cons_succ, i64_w, i32_w, hwj]
            rfl
          refine pure_ (i := 5) (N := some 148) (v := ?_) (a' := ?_) #[true, true, true, true, true, true, false, false, false, false] rfl rfl (by kernel_rfl) (fun _ _ _ h => h) (Or.inl ⟨by rfl, ?_⟩) ?_ ?_
          rotate_left
          · intro w'
            go_simp
            with_reducible rfl
          rotate_left
          · simp only [Act.put, List.setIfInBounds_toArray, List.set_cons_zero, List.set_cons_succ, i64_w, i32_w, hwj]
            rfl
          refine pure_ (i := 6) (N := some 149) (v := ?_) (a' := ?_) #[true, true, true, true, true, true, true, false, false, false] rfl rfl (by kernel_rfl) (fun _ _ _ h => h) (Or.inl ⟨by rfl, ?_⟩) ?_ ?_
          rotate_left
          · intro w'
            go_simp
            with_reducible rfl
          rotate_left
          · simp only [Act.put, List.setIfInBounds_toArray, List.set_cons_zero, List.set_cons_succ, i64_w, i32_w, hwj]
            rfl
          refine take_ (i := 7) (N := some 150) (v := ?_) (a' := ?_) #[true, true, true, true, true, true, true, true, false, false] rfl rfl (by kernel_rfl) (fun _ _ _ h => h) (Or.inl ⟨by rfl, ?_⟩) hHeld ?_ ?_
          rotate_left
          · rintro w' ⟨s0, s1⟩
            go_simp
            with_reducible rfl
          rotate_left
          · simp only [Act.put, List.setIfInBounds_toArray, List.set_cons_zero, List.set_cons_succ, i64_w, i32_w, hwj]
            rfl
          refine take_ (i := 8) (N := some 151) (v := ?_) (a' := ?_) #[true, true, true, true, true, true, true, true, true, false] rfl rfl (by kernel_rfl) (fun _ _ _ h => h) (Or.inl ⟨by rfl, ?_⟩) hHeld ?_ ?_
          rotate_left
          · rintro w' ⟨s0, s1⟩
            go_simp
            with_reducible rfl
          rotate_left
          · simp only [Act.put, List.setIfInBounds_toArray, List.set_cons_zero, List.set_cons_succ, i64_w, i32_w, hwj]
            rfl
          refine pure_ (i := 9) (N := some 152) (v := ?_) (a' := ?_) #[true, true, true, true, true, true, true, true, true, true] rfl rfl (by kernel_rfl) (fun _ _ _ h => h) (Or.inl ⟨by rfl, ?_⟩) ?_ ?_
          rotate_left
          · intro w'
            go_simp
            with_reducible rfl
          rotate_left
          · simp only [Act.put, List.setIfInBounds_toArray, List.set_cons_zero, List.set_cons_succ, i64_w, i32_w, hwj]
            rfl
          refine done_ (by kernel_rfl) ?_
          clear hwj hjl
          go_wp2
          go_roundw
          case rel => exact ⟨t, _, j + 1, i + 1, rfl, rfl, congrArg (Value.int .i64) HI1A.out, ⟨by rw [w_id _ (by have := HNX.out; omega) (by have := HNX.out; have := HL.out; omega), HNX.out]; rfl, by have := HA.out; have := HT.out; omega, HT.out.2, HIB.out, HIA.out, hjn⟩, ⟨HI6.out.below (by repeat (first | exact Below.refl _ _ | apply pw_below_drewN | apply below_drew1))⟩, ⟨(by repeat (first | exact HB6.out | apply pw_below_drewN | apply below_drew1 | apply below_alloc))⟩⟩
          case measure => exact meas HI1A.out HIA.out
        · have HST := Aside0.mk hs; clear hs
          obtain ⟨tj, htj⟩ : ∃ tj : Int, tj = (j : Int) := ⟨_, rfl⟩; rw [← htj] at HST
          have e1 : (tj != nx) = true := bne_iff_ne.2 (by have := HA.out.1; omega); have e2 : (tj == nx) = false := beq_eq_false_iff_ne.2 (by have := HA.out.1; omega)
          have hwj : wrap64 (nx - 1) = tj := by have := HA.out.1; rw [w_id _ (by omega) (by have := HL.out; have := HA.out; omega)]; omega
          have e3 : (tj != wrap64 (nx - 1)) = false := by rw [hwj]; simp
          generalize us.getD (j - 1) 0 = u at HST
          clear htj hwj
          go_wp2_with ((go_at_call 12; refine HST.out.mono ?_; rintro e w6 ⟨ga, ca, vd, rfl, hga, HIx, HX⟩; have HI6 := Aside0.mk HIx; have HB6 : Aside0 (Below w.heap.size w w6) := ⟨belowT HB.out HX⟩; clear HIx HX; have la0 : w6.cell? ⟨ga, 0, none⟩ = some (.int .i64 tj) := (blk_cell hga 0).trans rfl; clear hga))
          go_roundw
          case rel => exact ⟨t, nx, j, i + 1, rfl, rfl, congrArg (Value.int .i64) HI1A.out, ⟨HA.out.1, by have := HA.out; have := HT.out; omega, HT.out.2, HIB.out, HIA.out, HA.out.2.2.2.2.2⟩, HI6, HB6⟩
          case measure => exact meas HI1A.out HIA.out
end Go.Proofs.Ytlalpooiegganaa.HandOrder

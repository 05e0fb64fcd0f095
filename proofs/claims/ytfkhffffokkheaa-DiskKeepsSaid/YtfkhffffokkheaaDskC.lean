/- The walk of DiskCounts. (printed by gen_dlaw.py) -/
import Derived.Test.YtfkhffffokkheaaDskB
import Derived.Deep.DeepMust
import Derived.Deep.LoopGhost
namespace Go.Proofs.Ytfkhffffokkheaa.DskC
open Go.RowKit Go.Proofs.YtfkhffffokkheaaW.PrintWords Go.Proofs.YtfkhffffokkheaaW.PrintLast Go.Proofs.YtfkhffffokkheaaW.PrintMore Go.Proofs.Ytfkhffffokkheaa.Core Go.Proofs.Ytfkhffffokkheaa.Wk Go.Proofs.Ytfkhffffokkheaa.Dsk Go.Proofs.Ytfkhffffokkheaa.DskB
set_option linter.unusedVariables false
set_option linter.unusedSimpArgs false
attribute [local go_sem] max2_int min2_int max_two min_two
/-- Behind i Writes, of which the n-th is cut (0: no byte of it is kept). -/
structure Cnt (n i : Nat) (s : DS) : Prop where
  left : s.left = if i < n then (n : Int) - i else 0
  down : s.down = decide (n ≤ i)
  wr : s.wr = min i n
  keep : s.keep = 0
theorem Cnt.ok {n i : Nat} {s : DS} {k : Int} {b : List Int} (h : Cnt n i s) (hb : b.length = s.byt) (h0 : 0 ≤ k) (h1 : k < s.sec) (hi : i + 1 < n) : (s.write k b).2 = 0 ∧ Cnt n (i + 1) (s.write k b).1 ∧ (s.write k b).1.sec = s.sec ∧ (s.write k b).1.byt = s.byt := by
  obtain ⟨sec, byt, all, down, left, keep, wr⟩ := s
  obtain ⟨e1, e2, e3, e4⟩ := h
  simp only at e1 e2 e3 e4 hb h1
  have hd : down = false := by rw [e2]; exact decide_eq_false (by omega)
  rw [if_pos (by omega)] at e1
  unfold DS.write
  rw [if_neg (by rw [ready_ok hd h0 h1]; simp), if_neg (by simpa using hb), if_neg (by simp only; omega), if_neg (by simp only; omega)]
  refine ⟨rfl, ⟨?_, ?_, ?_, e4⟩, rfl, rfl⟩
  · simp only; rw [if_pos (by omega), e1]; omega
  · simp only; rw [hd]; exact (decide_eq_false (by omega)).symm
  · simp only; rw [e3]; omega
theorem Cnt.cut {n i : Nat} {s : DS} {k : Int} {b : List Int} (h : Cnt n i s) (hb : b.length = s.byt) (h0 : 0 ≤ k) (h1 : k < s.sec) (hi : n ≤ i + 1) (hn : 1 ≤ n) : (s.write k b).2 = 180 ∧ Cnt n (i + 1) (s.write k b).1 ∧ (s.write k b).1.sec = s.sec ∧ (s.write k b).1.byt = s.byt := by
  obtain ⟨sec, byt, all, down, left, keep, wr⟩ := s
  obtain ⟨e1, e2, e3, e4⟩ := h
  simp only at e1 e2 e3 e4 hb h1
  unfold DS.write
  by_cases hn2 : n ≤ i
  · have hd : down = true := by rw [e2]; exact decide_eq_true hn2
    rw [if_pos (by rw [ready_down hd]; simp)]
    rw [if_neg (by omega)] at e1
    refine ⟨ready_down hd, ⟨?_, ?_, ?_, e4⟩, rfl, rfl⟩
    · simp only; rw [if_neg (by omega), e1]
    · simp only; rw [hd]; exact (decide_eq_true (by omega)).symm
    · simp only; rw [e3]; omega
  · have hd : down = false := by rw [e2]; exact decide_eq_false hn2
    rw [if_pos (by omega)] at e1
    rw [if_neg (by rw [ready_ok hd h0 h1]; simp), if_neg (by simpa using hb), if_neg (by simp only; omega), if_pos (by simp only; omega)]
    refine ⟨rfl, ⟨?_, ?_, ?_, e4⟩, rfl, rfl⟩
    · simp only; rw [if_neg (by omega)]
    · simp only; exact (decide_eq_true (by omega)).symm
    · simp only; rw [e3]; omega
theorem Cnt.last {n i : Nat} {s : DS} {b : List Int} (h : Cnt n i s) (hb : b.length = s.byt) (h1 : 0 < s.sec) : ((s.on).write 0 b).2 = 0 := by
  obtain ⟨sec, byt, all, down, left, keep, wr⟩ := s
  simp only at hb h1
  unfold DS.write DS.on
  rw [if_neg (by rw [ready_ok rfl (by omega) (by show (0 : Int) < (sec : Int); omega)]; simp), if_neg (by simpa using hb), if_pos (by simp)]
set_option maxHeartbeats 4000000 in
set_option maxRecDepth 100000 in
theorem counts_main (sec byt n q : Nat) (w : World) (hm : May sec byt) (h1 : 1 ≤ sec) (h2 : sec ≤ 30) (h3 : 16 ≤ byt) (h4 : byt ≤ 100) (h5 : 1 ≤ n) (h6 : q ≤ 60) (hn : n ≤ 9223372036854775807) : Calls Try.prog 4 #[.int .i64 sec, .int .i64 byt, .int .i64 n, .int .i64 q] w fun e w' => e = .returned (.bool true) ∧ Below w.heap.size w w' := by
  have HM := Aside0.mk hm
  have tt0 : decide (30 < (sec : Int)) = false := decide_eq_false (by omega)
  have tt1 : decide (100 < (byt : Int)) = false := decide_eq_false (by omega)
  have tt2 : decide ((n : Int) < 1) = false := decide_eq_false (by omega)
  have tt3 : decide ((q : Int) < 0) = false := decide_eq_false (by omega)
  have tt4 : decide (60 < (q : Int)) = false := decide_eq_false (by omega)
  have tt5 : decide (30 < sec) = false := decide_eq_false (by omega)
  have tt6 : decide (100 < byt) = false := decide_eq_false (by omega)
  have tt7 : decide (n < 1) = false := decide_eq_false (by omega)
  have tt8 : decide (60 < q) = false := decide_eq_false (by omega)
  have SZ := Aside0.mk (And.intro h1 (And.intro h2 (And.intro h3 h4))); have HN := Aside0.mk hn; have H5 := Aside0.mk h5
  clear hm hn
  have tok1 := Aside0.mk trivial
  have XT : Aside0 (Ext (fun _ => False) w w) := ⟨Ext.refl _ _⟩
  go_enter Try.func4, Try.ntmps4
  go_wp2_with (first | (go_at_call 9; go_must (refine (may_yes _ _ _ HM.out).mono ?_; rintro e w' ⟨rfl, rfl⟩)) | (go_at_call 10; go_must (refine (new_c sec byt _ SZ.out.1 (by have := SZ.out; omega) SZ.out.2.2.1 (by have := SZ.out; omega)).mono ?_; rintro e w1 ⟨g, m, rfl, hg_, hm_, HBc, hD⟩; have F_g : Aside0 (∀ k, k = g → (fun _ => False) k ∨ w.heap.size ≤ k) := ⟨fun k e => .inr (by have := XT.out.size; omega)⟩; have F_m : Aside0 (∀ k, k = m → (fun _ => False) k ∨ w.heap.size ≤ k) := ⟨fun k e => .inr (by have := XT.out.size; omega)⟩; have XTn : Aside0 (Ext (fun _ => False) w w1) := ⟨XT.out.stepB HBc⟩; clear XT; have XT := XTn; clear XTn; have OB_d : Aside0 (IsDisk (Ms [g, m]) w1 g m ⟨sec, byt, fun _ => zeros byt, false, 0, 0, 0⟩) := ⟨hD _ (by simp [Ms]) (by simp [Ms])⟩; clear hD HBc hg_ hm_; have MB : Aside0 (∀ k, Ms [g, m] k → k < w1.heap.size) := ⟨fun k hk => by have h1_ := OB_d.out.lts; rcases List.mem_cons.1 hk with e | e; exact e ▸ h1_.1; rcases List.mem_cons.1 e with e | e; exact e ▸ h1_.2; exact absurd e (by simp)⟩)) | ((with_reducible refine gate_dst (N := 52) rfl ?_); go_must (refine mk_event rfl (N := 52) rfl .u8 (byt) 1 rfl Try.underlying27 info5 (by decide) (by decide) ?hx ?hy (by have := SZ.out; omega) ?_; (case hx => rfl); (case hy => rfl); intro a hg w2 hbox HBc; have NE_g_a : Aside0 (g ≠ a) := ⟨ne_born (by have := OB_d.out.lts; omega) hg⟩; have NE_a_g : Aside0 (a ≠ g) := ⟨fun e => NE_g_a.out e.symm⟩; have NE_m_a : Aside0 (m ≠ a) := ⟨ne_born (by have := OB_d.out.lts; omega) hg⟩; have NE_a_m : Aside0 (a ≠ m) := ⟨fun e => NE_m_a.out e.symm⟩; have F_a : Aside0 (∀ k, k = a → (fun _ => False) k ∨ w.heap.size ≤ k) := ⟨fnew hg XT.out.size⟩; have RG_a : Aside0 (w.heap.size ≤ a) := ⟨Nat.le_trans XT.out.size (Nat.le_of_eq hg.symm)⟩; have hge := Nat.le_of_eq hg.symm; clear hg; have MBn : Aside0 (∀ k, Ms [a, g, m] k → k < w2.heap.size) := ⟨Ms.ltc _ MB.out HBc.size (blk_lt hbox)⟩; have OBn_d : Aside0 (IsDisk (Ms [a, g, m]) w2 g m ⟨sec, byt, fun _ => zeros byt, false, 0, 0, 0⟩) := ⟨OB_d.out.more HBc hge⟩; have XTn : Aside0 (Ext (fun _ => False) w w2) := ⟨XT.out.stepB HBc⟩; clear MB OB_d XT; have MB := MBn; have OB_d := OBn_d; have XT := XTn; clear MBn OBn_d XTn; clear hge; have BK_a : Aside0 (w2.heap[a]? = some (.cells ((List.replicate byt (0 : Int)).map (Value.int .u8)).toArray 5 (0, 0))) := ⟨hbox⟩; clear hbox HBc)))
  go_loopw [12] (fun i wr => ∃ k : Nat, k ≤ byt ∧ i = .int .i64 k ∧ Aside0 (wr.heap[a]? = some (.cells ((fill byt k 5).map (Value.int .u8)).toArray 5 (0, 0))) ∧ Aside0 (IsDisk (Ms [a, g, m]) wr g m ⟨sec, byt, fun _ => zeros byt, false, 0, 0, 0⟩) ∧ Aside0 (∀ k, Ms [a, g, m] k → k < wr.heap.size) ∧ Aside0 (Ext (fun _ => False) w wr)) (fun i _ => byt - (intOf i).toNat)
  case atStart => exact ⟨0, by omega, rfl, ⟨by rw [fill_zero]; exact BK_a.out⟩, OB_d, MB, XT⟩
  case round =>
    clear BK_a OB_d MB XT
    obtain ⟨k, hk, rfl, BK_a, OB_d, MB, XT⟩ := hrel
    by_cases hlt : k < byt
    · have u1 : decide (k < byt) = true := decide_eq_true hlt; have u2 : decide ((k : Int) < (byt : Int)) = true := decide_eq_true (by omega)
      have HLT := Aside0.mk hlt; have HK := Aside0.mk hk
      go_wp2_with (first | ((with_reducible refine gate_store (p := 60) rfl ?_); go_must (have rc_ := row_cell BK_a.out (by rw [fill_len HK.out]; exact HLT.out); have rf_ := blk_frozen BK_a.out k; refine store_event (w1 := ?_) rfl (p := 60) rfl rfl ?hr ?_; rotate_left; (case hr => go_simp; rfl); intro w4 hw_; obtain ⟨hput, HEc⟩ := rowset hw_ BK_a.out; rw [fill_set HLT.out] at hput; clear hw_ rc_ rf_; have MBn : Aside0 (∀ k, Ms [a, g, m] k → k < w4.heap.size) := ⟨Ms.lt _ MB.out HEc.size⟩; have OBn_d : Aside0 (IsDisk (Ms [a, g, m]) w4 g m ⟨sec, byt, fun _ => zeros byt, false, 0, 0, 0⟩) := ⟨OB_d.out.step HEc (Ms.one (by simp)) NE_g_a.out NE_m_a.out⟩; have XTn : Aside0 (Ext (fun _ => False) w w4) := ⟨XT.out.step HEc (F_a.out)⟩; clear MB OB_d XT; have MB := MBn; have OB_d := OBn_d; have XT := XTn; clear MBn OBn_d XTn; clear BK_a; have BK_a : Aside0 (w4.heap[a]? = some (.cells ((fill byt (k + 1) 5).map (Value.int .u8)).toArray 5 (0, 0))) := ⟨hput⟩; clear hput HEc)))
      go_roundw
      case rel => exact ⟨k + 1, by omega, by go_num, BK_a, OB_d, MB, XT⟩
      case measure => simp [intOf]; omega
    · obtain rfl : k = byt := by omega
      have u1 : decide (k < k) = false := decide_eq_false (by omega)
      clear hlt hk
      go_wp2_with (first | (go_at_call 12; go_must (refine (arm_s OB_d.out n 0).mono ?_; rintro e w6 ⟨rfl, hD, HEc⟩; have BKn_a : Aside0 (w6.heap[a]? = some (.cells ((fill k k 5).map (Value.int .u8)).toArray 5 (0, 0))) := ⟨Ext.blk HEc BK_a.out NE_a_g.out⟩; have MBn : Aside0 (∀ k, Ms [a, g, m] k → k < w6.heap.size) := ⟨Ms.lt _ MB.out HEc.size⟩; have XTn : Aside0 (Ext (fun _ => False) w w6) := ⟨XT.out.step HEc (F_g.out)⟩; clear BK_a MB XT; have BK_a := BKn_a; have MB := MBn; have XT := XTn; clear BKn_a MBn XTn; clear OB_d; have OB_d : Aside0 (IsDisk (Ms [a, g, m]) w6 g m (DS.arm ⟨sec, k, fun _ => zeros k, false, 0, 0, 0⟩ n 0)) := ⟨hD⟩; clear hD HEc)))
      go_loopw [13, 14] (fun i f wr => ∃ (j : Nat) (s : DS), j ≤ q ∧ i = .int .i64 ((j + 1 : Nat) : Int) ∧ Aside0 (Cnt n j s ∧ s.sec = sec ∧ s.byt = k) ∧ Aside0 (wr.heap[a]? = some (.cells ((fill k k 5).map (Value.int .u8)).toArray 5 (0, 0))) ∧ Aside0 (IsDisk (Ms [a, g, m]) wr g m s) ∧ Aside0 (∀ k, Ms [a, g, m] k → k < wr.heap.size) ∧ Aside0 (Ext (fun _ => False) w wr)) (fun i _ _ => q + 1 - (intOf i).toNat)
      case atStart => exact ⟨0, _, by omega, rfl, ⟨⟨⟨by show (if ((n : Int) < 0) then 0 else (n : Int)) = _; rw [if_neg (by omega), if_pos (by have := H5.out; omega)]; omega, by show false = _; exact (decide_eq_false (by have := H5.out; omega)).symm, by show (0 : Int) = _; simp, rfl⟩, rfl, rfl⟩⟩, BK_a, OB_d, MB, XT⟩
      case round =>
        clear BK_a OB_d MB XT
        obtain ⟨j, s, hj, rfl, HS, BK_a, OB_d, MB, XT⟩ := hrel
        by_cases hlt : j < q
        · have v1 : decide (j + 1 ≤ q) = true := decide_eq_true (by omega); have v2 : decide (((j : Int) + 1) ≤ (q : Int)) = true := decide_eq_true (by omega)
          obtain ⟨K, hK⟩ : ∃ K : Int, ((j : Int) + 1) % (sec : Int) = K := ⟨_, rfl⟩
          have KB : Aside0 (0 ≤ K ∧ K < s.sec) := ⟨by have := SZ.out.1; rw [← hK, HS.out.2.1]; exact ⟨Int.emod_nonneg _ (by omega), Int.emod_lt_of_pos _ (by omega)⟩⟩
          have HL : Aside0 ((fill k k 5).length = s.byt) := ⟨by rw [fill_len (Nat.le_refl k)]; exact HS.out.2.2.symm⟩
          have WB : Aside0 (s.wr ≤ 1000000000000 ∧ s.left ≤ 9223372036854775807) := ⟨by have h1 := HS.out.1.wr; have h2 := HS.out.1.left; have h3 := HN.out; have h4 := SZ.out; constructor; rw [h1]; omega; rw [h2]; split <;> omega⟩
          have NZ : Aside0 ((sec : Int) ≠ 0) := ⟨by have := SZ.out.1; omega⟩
          have hs0 : (0 : Int) < (sec : Int) := by have := SZ.out.1; omega
          by_cases hc : j + 1 < n
          · have v3 : decide (j + 1 < n) = true := decide_eq_true (by omega); have v4 : decide (((j : Int) + 1) < (n : Int)) = true := decide_eq_true (by omega); have v5 : decide (n ≤ j + 1) = false := decide_eq_false (by omega); have v6 : decide ((n : Int) ≤ (j : Int) + 1) = false := decide_eq_false (by omega)
            have HW := Aside0.mk (HS.out.1.ok (b := fill k k 5) HL.out KB.out.1 KB.out.2 hc)
            clear hc
            go_wp2_with (first | (go_at_call 11; go_must (refine (write_v OB_d.out K MB.out (some ⟨a, 0, none⟩) k (fill k k 5) (fill_len (Nat.le_refl k)) (Nat.le_of_eq (fill_len (Nat.le_refl k))) (rowV BK_a.out (fill_len (Nat.le_refl k)) (by have := SZ.out; omega) NE_a_g.out NE_a_m.out) WB.out.1 WB.out.2 HW.out.1).mono ?_; rintro e w7 ⟨rfl, hD, HEc⟩; have BKn_a : Aside0 (w7.heap[a]? = some (.cells ((fill k k 5).map (Value.int .u8)).toArray 5 (0, 0))) := ⟨Ext.blk HEc BK_a.out (fun e => e.elim NE_a_g.out NE_a_m.out)⟩; have MBn : Aside0 (∀ k, Ms [a, g, m] k → k < w7.heap.size) := ⟨Ms.lt _ MB.out HEc.size⟩; have XTn : Aside0 (Ext (fun _ => False) w w7) := ⟨XT.out.step HEc (fun k e => Or.elim e (F_g.out k) (F_m.out k))⟩; clear BK_a MB XT; have BK_a := BKn_a; have MB := MBn; have XT := XTn; clear BKn_a MBn XTn; clear OB_d; have OB_d : Aside0 (IsDisk (Ms [a, g, m]) w7 g m (s.write K (fill k k 5)).1) := ⟨hD⟩; clear hD HEc)))
            go_roundw
            case rel => exact ⟨j + 1, _, by omega, by go_num, ⟨⟨HW.out.2.1, HW.out.2.2.1.trans HS.out.2.1, HW.out.2.2.2.trans HS.out.2.2⟩⟩, BK_a, OB_d, MB, XT⟩
            case measure => simp [intOf]; omega
          · have v3 : decide (j + 1 < n) = false := decide_eq_false (by omega); have v4 : decide (((j : Int) + 1) < (n : Int)) = false := decide_eq_false (by omega); have v5 : decide (n ≤ j + 1) = true := decide_eq_true (by omega); have v6 : decide ((n : Int) ≤ (j : Int) + 1) = true := decide_eq_true (by omega)
            have HW := Aside0.mk (HS.out.1.cut (b := fill k k 5) HL.out KB.out.1 KB.out.2 (by omega) H5.out)
            clear hc
            go_wp2_with (first | (go_at_call 11; go_must (refine (write_v OB_d.out K MB.out (some ⟨a, 0, none⟩) k (fill k k 5) (fill_len (Nat.le_refl k)) (Nat.le_of_eq (fill_len (Nat.le_refl k))) (rowV BK_a.out (fill_len (Nat.le_refl k)) (by have := SZ.out; omega) NE_a_g.out NE_a_m.out) WB.out.1 WB.out.2 HW.out.1).mono ?_; rintro e w7 ⟨rfl, hD, HEc⟩; have BKn_a : Aside0 (w7.heap[a]? = some (.cells ((fill k k 5).map (Value.int .u8)).toArray 5 (0, 0))) := ⟨Ext.blk HEc BK_a.out (fun e => e.elim NE_a_g.out NE_a_m.out)⟩; have MBn : Aside0 (∀ k, Ms [a, g, m] k → k < w7.heap.size) := ⟨Ms.lt _ MB.out HEc.size⟩; have XTn : Aside0 (Ext (fun _ => False) w w7) := ⟨XT.out.step HEc (fun k e => Or.elim e (F_g.out k) (F_m.out k))⟩; clear BK_a MB XT; have BK_a := BKn_a; have MB := MBn; have XT := XTn; clear BKn_a MBn XTn; clear OB_d; have OB_d : Aside0 (IsDisk (Ms [a, g, m]) w7 g m (s.write K (fill k k 5)).1) := ⟨hD⟩; clear hD HEc)))
            go_roundw
            case rel => exact ⟨j + 1, _, by omega, by go_num, ⟨⟨HW.out.2.1, HW.out.2.2.1.trans HS.out.2.1, HW.out.2.2.2.trans HS.out.2.2⟩⟩, BK_a, OB_d, MB, XT⟩
            case measure => simp [intOf]; omega
        · obtain rfl : j = q := by omega
          have v1 : decide (j + 1 ≤ j) = false := decide_eq_false (by omega); have v2 : decide (((j : Int) + 1) ≤ (j : Int)) = false := decide_eq_false (by omega)
          have HLB : Aside0 ((s.on.write 0 (fill k k 5)).2 = 0) := ⟨HS.out.1.last (by rw [fill_len (Nat.le_refl k)]; exact HS.out.2.2.symm) (by have := SZ.out.1; have := HS.out.2.1; omega)⟩
          have WB : Aside0 (s.on.wr ≤ 1000000000000 ∧ s.on.left ≤ 9223372036854775807) := ⟨by have h1 := HS.out.1.wr; have h4 := SZ.out; constructor; show s.wr ≤ _; rw [h1]; omega; show (0 : Int) ≤ _; omega⟩
          have K6 := Aside0.mk h6; clear h6 hj hlt
          rcases Nat.lt_trichotomy j n with hc | hc | hc
          · have HD : Aside0 ((!s.down) = true) := ⟨by rw [HS.out.1.down]; simp; omega⟩; have HWR : Aside0 (s.wr = ((j : Nat) : Int)) := ⟨by rw [HS.out.1.wr]; omega⟩
            have v3 : decide (j < n) = true := decide_eq_true (by omega); have v4 : decide ((j : Int) < (n : Int)) = true := decide_eq_true (by omega)
            have v5 : decide (n < j) = false := decide_eq_false (by omega); have v6 : decide ((n : Int) < (j : Int)) = false := decide_eq_false (by omega)
            go_wp2_with (first | (go_at_call 14; have _t := tok1; go_must (refine (up_s OB_d.out HD.out).mono ?_; rintro e w' ⟨rfl, rfl⟩; clear tok1 _t; have tok2 := Aside0.mk trivial)) | (go_at_call 17; go_must (refine (writes_s OB_d.out HWR.out).mono ?_; rintro e w' ⟨rfl, rfl⟩)) | (go_at_call 15; go_must (refine (on_s OB_d.out).mono ?_; rintro e w7 ⟨rfl, hD, HEc⟩; have BKn_a : Aside0 (w7.heap[a]? = some (.cells ((fill k k 5).map (Value.int .u8)).toArray 5 (0, 0))) := ⟨Ext.blk HEc BK_a.out NE_a_g.out⟩; have MBn : Aside0 (∀ k, Ms [a, g, m] k → k < w7.heap.size) := ⟨Ms.lt _ MB.out HEc.size⟩; have XTn : Aside0 (Ext (fun _ => False) w w7) := ⟨XT.out.step HEc (F_g.out)⟩; clear BK_a MB XT; have BK_a := BKn_a; have MB := MBn; have XT := XTn; clear BKn_a MBn XTn; clear OB_d; have OB_d : Aside0 (IsDisk (Ms [a, g, m]) w7 g m s.on) := ⟨hD⟩; clear hD HEc)) | (go_at_call 16; go_must (refine (awake_c _).mono ?_; rintro e w8 ⟨rfl, HBc⟩; have BKn_a : Aside0 (w8.heap[a]? = some (.cells ((fill k k 5).map (Value.int .u8)).toArray 5 (0, 0))) := ⟨Ext.blk (Ext.none_ HBc) BK_a.out (fun e => e)⟩; have MBn : Aside0 (∀ k, Ms [a, g, m] k → k < w8.heap.size) := ⟨Ms.lt _ MB.out HBc.size⟩; have OBn_d : Aside0 (IsDisk (Ms [a, g, m]) w8 g m s.on) := ⟨OB_d.out.step (Ext.none_ HBc) (fun _ e => False.elim e) (fun e => e) (fun e => e)⟩; have XTn : Aside0 (Ext (fun _ => False) w w8) := ⟨XT.out.stepB HBc⟩; clear BK_a MB OB_d XT; have BK_a := BKn_a; have MB := MBn; have OB_d := OBn_d; have XT := XTn; clear BKn_a MBn OBn_d XTn; clear HBc)) | (go_at_call 14; have _t := tok2; go_must (refine (up_s OB_d.out (v := true) rfl).mono ?_; rintro e w' ⟨rfl, rfl⟩; clear tok2 _t; have tok3 := Aside0.mk trivial)) | (go_at_call 11; go_must (refine (write_v OB_d.out 0 MB.out (some ⟨a, 0, none⟩) k (fill k k 5) (fill_len (Nat.le_refl k)) (Nat.le_of_eq (fill_len (Nat.le_refl k))) (rowV BK_a.out (fill_len (Nat.le_refl k)) (by have := SZ.out; omega) NE_a_g.out NE_a_m.out) WB.out.1 WB.out.2 HLB.out).mono ?_; rintro e w9 ⟨rfl, hD, HEc⟩; have BKn_a : Aside0 (w9.heap[a]? = some (.cells ((fill k k 5).map (Value.int .u8)).toArray 5 (0, 0))) := ⟨Ext.blk HEc BK_a.out (fun e => e.elim NE_a_g.out NE_a_m.out)⟩; have MBn : Aside0 (∀ k, Ms [a, g, m] k → k < w9.heap.size) := ⟨Ms.lt _ MB.out HEc.size⟩; have XTn : Aside0 (Ext (fun _ => False) w w9) := ⟨XT.out.step HEc (fun k e => Or.elim e (F_g.out k) (F_m.out k))⟩; clear BK_a MB XT; have BK_a := BKn_a; have MB := MBn; have XT := XTn; clear BKn_a MBn XTn; clear OB_d; have OB_d : Aside0 (IsDisk (Ms [a, g, m]) w9 g m (s.on.write 0 (fill k k 5)).1) := ⟨hD⟩; clear hD HEc)))
            go_ret
            exact ⟨rfl, XT.out.below (fun _ e => e.elim)⟩
          · have HD : Aside0 ((!s.down) = false) := ⟨by rw [HS.out.1.down]; simp; omega⟩; have HWR : Aside0 (s.wr = ((j : Nat) : Int)) := ⟨by rw [HS.out.1.wr]; omega⟩
            subst hc
            have v3 : decide (j < j) = false := decide_eq_false (by omega); have v4 : decide ((j : Int) < (j : Int)) = false := decide_eq_false (by omega)
            go_wp2_with (first | (go_at_call 14; have _t := tok1; go_must (refine (up_s OB_d.out HD.out).mono ?_; rintro e w' ⟨rfl, rfl⟩; clear tok1 _t; have tok2 := Aside0.mk trivial)) | (go_at_call 17; go_must (refine (writes_s OB_d.out HWR.out).mono ?_; rintro e w' ⟨rfl, rfl⟩)) | (go_at_call 15; go_must (refine (on_s OB_d.out).mono ?_; rintro e w7 ⟨rfl, hD, HEc⟩; have BKn_a : Aside0 (w7.heap[a]? = some (.cells ((fill k k 5).map (Value.int .u8)).toArray 5 (0, 0))) := ⟨Ext.blk HEc BK_a.out NE_a_g.out⟩; have MBn : Aside0 (∀ k, Ms [a, g, m] k → k < w7.heap.size) := ⟨Ms.lt _ MB.out HEc.size⟩; have XTn : Aside0 (Ext (fun _ => False) w w7) := ⟨XT.out.step HEc (F_g.out)⟩; clear BK_a MB XT; have BK_a := BKn_a; have MB := MBn; have XT := XTn; clear BKn_a MBn XTn; clear OB_d; have OB_d : Aside0 (IsDisk (Ms [a, g, m]) w7 g m s.on) := ⟨hD⟩; clear hD HEc)) | (go_at_call 16; go_must (refine (awake_c _).mono ?_; rintro e w8 ⟨rfl, HBc⟩; have BKn_a : Aside0 (w8.heap[a]? = some (.cells ((fill k k 5).map (Value.int .u8)).toArray 5 (0, 0))) := ⟨Ext.blk (Ext.none_ HBc) BK_a.out (fun e => e)⟩; have MBn : Aside0 (∀ k, Ms [a, g, m] k → k < w8.heap.size) := ⟨Ms.lt _ MB.out HBc.size⟩; have OBn_d : Aside0 (IsDisk (Ms [a, g, m]) w8 g m s.on) := ⟨OB_d.out.step (Ext.none_ HBc) (fun _ e => False.elim e) (fun e => e) (fun e => e)⟩; have XTn : Aside0 (Ext (fun _ => False) w w8) := ⟨XT.out.stepB HBc⟩; clear BK_a MB OB_d XT; have BK_a := BKn_a; have MB := MBn; have OB_d := OBn_d; have XT := XTn; clear BKn_a MBn OBn_d XTn; clear HBc)) | (go_at_call 14; have _t := tok2; go_must (refine (up_s OB_d.out (v := true) rfl).mono ?_; rintro e w' ⟨rfl, rfl⟩; clear tok2 _t; have tok3 := Aside0.mk trivial)) | (go_at_call 11; go_must (refine (write_v OB_d.out 0 MB.out (some ⟨a, 0, none⟩) k (fill k k 5) (fill_len (Nat.le_refl k)) (Nat.le_of_eq (fill_len (Nat.le_refl k))) (rowV BK_a.out (fill_len (Nat.le_refl k)) (by have := SZ.out; omega) NE_a_g.out NE_a_m.out) WB.out.1 WB.out.2 HLB.out).mono ?_; rintro e w9 ⟨rfl, hD, HEc⟩; have BKn_a : Aside0 (w9.heap[a]? = some (.cells ((fill k k 5).map (Value.int .u8)).toArray 5 (0, 0))) := ⟨Ext.blk HEc BK_a.out (fun e => e.elim NE_a_g.out NE_a_m.out)⟩; have MBn : Aside0 (∀ k, Ms [a, g, m] k → k < w9.heap.size) := ⟨Ms.lt _ MB.out HEc.size⟩; have XTn : Aside0 (Ext (fun _ => False) w w9) := ⟨XT.out.step HEc (fun k e => Or.elim e (F_g.out k) (F_m.out k))⟩; clear BK_a MB XT; have BK_a := BKn_a; have MB := MBn; have XT := XTn; clear BKn_a MBn XTn; clear OB_d; have OB_d : Aside0 (IsDisk (Ms [a, g, m]) w9 g m (s.on.write 0 (fill k k 5)).1) := ⟨hD⟩; clear hD HEc)))
            go_ret
            exact ⟨rfl, XT.out.below (fun _ e => e.elim)⟩
          · have HD : Aside0 ((!s.down) = false) := ⟨by rw [HS.out.1.down]; simp; omega⟩; have HWR : Aside0 (s.wr = ((n : Nat) : Int)) := ⟨by rw [HS.out.1.wr]; omega⟩
            have v3 : decide (j < n) = false := decide_eq_false (by omega); have v4 : decide ((j : Int) < (n : Int)) = false := decide_eq_false (by omega)
            have v5 : decide (n < j) = true := decide_eq_true (by omega); have v6 : decide ((n : Int) < (j : Int)) = true := decide_eq_true (by omega)
            go_wp2_with (first | (go_at_call 14; have _t := tok1; go_must (refine (up_s OB_d.out HD.out).mono ?_; rintro e w' ⟨rfl, rfl⟩; clear tok1 _t; have tok2 := Aside0.mk trivial)) | (go_at_call 17; go_must (refine (writes_s OB_d.out HWR.out).mono ?_; rintro e w' ⟨rfl, rfl⟩)) | (go_at_call 15; go_must (refine (on_s OB_d.out).mono ?_; rintro e w7 ⟨rfl, hD, HEc⟩; have BKn_a : Aside0 (w7.heap[a]? = some (.cells ((fill k k 5).map (Value.int .u8)).toArray 5 (0, 0))) := ⟨Ext.blk HEc BK_a.out NE_a_g.out⟩; have MBn : Aside0 (∀ k, Ms [a, g, m] k → k < w7.heap.size) := ⟨Ms.lt _ MB.out HEc.size⟩; have XTn : Aside0 (Ext (fun _ => False) w w7) := ⟨XT.out.step HEc (F_g.out)⟩; clear BK_a MB XT; have BK_a := BKn_a; have MB := MBn; have XT := XTn; clear BKn_a MBn XTn; clear OB_d; have OB_d : Aside0 (IsDisk (Ms [a, g, m]) w7 g m s.on) := ⟨hD⟩; clear hD HEc)) | (go_at_call 16; go_must (refine (awake_c _).mono ?_; rintro e w8 ⟨rfl, HBc⟩; have BKn_a : Aside0 (w8.heap[a]? = some (.cells ((fill k k 5).map (Value.int .u8)).toArray 5 (0, 0))) := ⟨Ext.blk (Ext.none_ HBc) BK_a.out (fun e => e)⟩; have MBn : Aside0 (∀ k, Ms [a, g, m] k → k < w8.heap.size) := ⟨Ms.lt _ MB.out HBc.size⟩; have OBn_d : Aside0 (IsDisk (Ms [a, g, m]) w8 g m s.on) := ⟨OB_d.out.step (Ext.none_ HBc) (fun _ e => False.elim e) (fun e => e) (fun e => e)⟩; have XTn : Aside0 (Ext (fun _ => False) w w8) := ⟨XT.out.stepB HBc⟩; clear BK_a MB OB_d XT; have BK_a := BKn_a; have MB := MBn; have OB_d := OBn_d; have XT := XTn; clear BKn_a MBn OBn_d XTn; clear HBc)) | (go_at_call 14; have _t := tok2; go_must (refine (up_s OB_d.out (v := true) rfl).mono ?_; rintro e w' ⟨rfl, rfl⟩; clear tok2 _t; have tok3 := Aside0.mk trivial)) | (go_at_call 11; go_must (refine (write_v OB_d.out 0 MB.out (some ⟨a, 0, none⟩) k (fill k k 5) (fill_len (Nat.le_refl k)) (Nat.le_of_eq (fill_len (Nat.le_refl k))) (rowV BK_a.out (fill_len (Nat.le_refl k)) (by have := SZ.out; omega) NE_a_g.out NE_a_m.out) WB.out.1 WB.out.2 HLB.out).mono ?_; rintro e w9 ⟨rfl, hD, HEc⟩; have BKn_a : Aside0 (w9.heap[a]? = some (.cells ((fill k k 5).map (Value.int .u8)).toArray 5 (0, 0))) := ⟨Ext.blk HEc BK_a.out (fun e => e.elim NE_a_g.out NE_a_m.out)⟩; have MBn : Aside0 (∀ k, Ms [a, g, m] k → k < w9.heap.size) := ⟨Ms.lt _ MB.out HEc.size⟩; have XTn : Aside0 (Ext (fun _ => False) w w9) := ⟨XT.out.step HEc (fun k e => Or.elim e (F_g.out k) (F_m.out k))⟩; clear BK_a MB XT; have BK_a := BKn_a; have MB := MBn; have XT := XTn; clear BKn_a MBn XTn; clear OB_d; have OB_d : Aside0 (IsDisk (Ms [a, g, m]) w9 g m (s.on.write 0 (fill k k 5)).1) := ⟨hD⟩; clear hD HEc)))
            go_ret
            exact ⟨rfl, XT.out.below (fun _ e => e.elim)⟩
set_option maxHeartbeats 4000000 in
set_option maxRecDepth 100000 in
theorem counts_walk (a : Int) (b : Int) (n : Int) (q : Int) (hn : n ≤ 9223372036854775807) (w : World) : Calls Try.prog 4 #[.int .i64 a, .int .i64 b, .int .i64 n, .int .i64 q] w fun e w' => e = .returned (.bool true) ∧ Below w.heap.size w w' := by
  by_cases hm : ¬ May a b
  · go_enter Try.func4, Try.ntmps4
    go_wp2_with (go_at_call 9; refine (may_no _ _ _ hm).mono ?_; rintro e w' ⟨rfl, rfl⟩)
    go_ret
    exact ⟨rfl, Below.refl _ _⟩
  replace hm : May a b := Classical.byContradiction hm
  by_cases c1 : 30 < a
  · have t1 : decide (30 < a) = true := decide_eq_true (by omega)
    have HM := Aside0.mk hm; clear hm c1
    go_enter Try.func4, Try.ntmps4
    go_wp2_with (go_at_call 9; refine (may_yes _ _ _ HM.out).mono ?_; rintro e w' ⟨rfl, rfl⟩)
    go_ret
    exact ⟨rfl, Below.refl _ _⟩
  have t1 : decide (30 < a) = false := decide_eq_false (by omega)
  by_cases c2 : 100 < b
  · have t2 : decide (100 < b) = true := decide_eq_true (by omega)
    have HM := Aside0.mk hm; clear hm c2
    go_enter Try.func4, Try.ntmps4
    go_wp2_with (go_at_call 9; refine (may_yes _ _ _ HM.out).mono ?_; rintro e w' ⟨rfl, rfl⟩)
    go_ret
    exact ⟨rfl, Below.refl _ _⟩
  have t2 : decide (100 < b) = false := decide_eq_false (by omega)
  by_cases c3 : n < 1
  · have t3 : decide (n < 1) = true := decide_eq_true (by omega)
    have HM := Aside0.mk hm; clear hm c3
    go_enter Try.func4, Try.ntmps4
    go_wp2_with (go_at_call 9; refine (may_yes _ _ _ HM.out).mono ?_; rintro e w' ⟨rfl, rfl⟩)
    go_ret
    exact ⟨rfl, Below.refl _ _⟩
  have t3 : decide (n < 1) = false := decide_eq_false (by omega)
  by_cases c4 : q < 0
  · have t4 : decide (q < 0) = true := decide_eq_true (by omega)
    have HM := Aside0.mk hm; clear hm c4
    go_enter Try.func4, Try.ntmps4
    go_wp2_with (go_at_call 9; refine (may_yes _ _ _ HM.out).mono ?_; rintro e w' ⟨rfl, rfl⟩)
    go_ret
    exact ⟨rfl, Below.refl _ _⟩
  have t4 : decide (q < 0) = false := decide_eq_false (by omega)
  by_cases c5 : 60 < q
  · have t5 : decide (60 < q) = true := decide_eq_true (by omega)
    have HM := Aside0.mk hm; clear hm c5
    go_enter Try.func4, Try.ntmps4
    go_wp2_with (go_at_call 9; refine (may_yes _ _ _ HM.out).mono ?_; rintro e w' ⟨rfl, rfl⟩)
    go_ret
    exact ⟨rfl, Below.refl _ _⟩
  have t5 : decide (60 < q) = false := decide_eq_false (by omega)
  clear t1 t2 t3 t4 t5
  have hm' := hm; obtain ⟨m1, m2, m3, m4⟩ := hm'
  obtain ⟨sec, rfl⟩ := Int.eq_ofNat_of_zero_le (show 0 ≤ a by omega); obtain ⟨byt, rfl⟩ := Int.eq_ofNat_of_zero_le (show 0 ≤ b by omega); obtain ⟨n', rfl⟩ := Int.eq_ofNat_of_zero_le (show 0 ≤ n by omega); obtain ⟨q', rfl⟩ := Int.eq_ofNat_of_zero_le (show 0 ≤ q by omega)
  exact counts_main sec byt n' q' w hm (by omega) (by omega) (by omega) (by omega) (by omega) (by omega) (by omega)
end Go.Proofs.Ytfkhffffokkheaa.DskC

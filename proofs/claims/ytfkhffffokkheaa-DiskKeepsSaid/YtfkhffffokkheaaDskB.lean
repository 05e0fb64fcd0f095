/- May, awake and the walk of DiskNil. (printed by gen_dlaw.py) -/
import Derived.Test.YtfkhffffokkheaaDskA
import Derived.Deep.DeepMust
import Derived.Deep.LoopGhost
namespace Go.Proofs.Ytfkhffffokkheaa.DskB
open Go.RowKit Go.Proofs.YtfkhffffokkheaaW.PrintWords Go.Proofs.YtfkhffffokkheaaW.PrintLast Go.Proofs.YtfkhffffokkheaaW.PrintMore Go.Proofs.Ytfkhffffokkheaa.Core Go.Proofs.Ytfkhffffokkheaa.Wk Go.Proofs.Ytfkhffffokkheaa.Dsk
set_option linter.unusedVariables false
set_option linter.unusedSimpArgs false
attribute [local go_sem] max2_int min2_int max_two min_two
def May (a b : Int) : Prop := 1 ≤ a ∧ a ≤ 4096 ∧ 16 ≤ b ∧ b ≤ 4096
set_option maxHeartbeats 4000000 in
set_option maxRecDepth 100000 in
theorem may_yes (a b : Int) (w : World) (h : May a b) : Calls Try.prog 9 #[.int .i64 a, .int .i64 b] w fun e w' => e = .returned (.bool true) ∧ w = w' := by
  obtain ⟨h1, h2, h3, h4⟩ := h
  have t1 : decide (1 ≤ a) = true := decide_eq_true h1
  have t2 : decide (a ≤ 4096) = true := decide_eq_true h2
  have t3 : decide (16 ≤ b) = true := decide_eq_true h3
  have t4 : decide (b ≤ 4096) = true := decide_eq_true h4
  clear h1 h2 h3 h4
  go_enter Try.func9, Try.ntmps9
  go_wp2
  go_ret
  exact ⟨rfl, rfl⟩
set_option maxHeartbeats 4000000 in
set_option maxRecDepth 100000 in
theorem may_no (a b : Int) (w : World) (h : ¬ May a b) : Calls Try.prog 9 #[.int .i64 a, .int .i64 b] w fun e w' => e = .returned (.bool false) ∧ w = w' := by
  by_cases h1 : 1 ≤ a
  · have t1 : decide (1 ≤ a) = true := decide_eq_true h1
    by_cases h2 : a ≤ 4096
    · have t2 : decide (a ≤ 4096) = true := decide_eq_true h2
      by_cases h3 : 16 ≤ b
      · have t3 : decide (16 ≤ b) = true := decide_eq_true h3
        have t4 : decide (b ≤ 4096) = false := decide_eq_false (fun h4 => h ⟨h1, h2, h3, h4⟩)
        clear h h1 h2 h3
        go_enter Try.func9, Try.ntmps9
        go_wp2
        go_ret
        exact ⟨rfl, rfl⟩
      · have t3 : decide (16 ≤ b) = false := decide_eq_false h3
        clear h h1 h2 h3
        go_enter Try.func9, Try.ntmps9
        go_wp2
        go_ret
        exact ⟨rfl, rfl⟩
    · have t2 : decide (a ≤ 4096) = false := decide_eq_false h2
      clear h h1 h2
      go_enter Try.func9, Try.ntmps9
      go_wp2
      go_ret
      exact ⟨rfl, rfl⟩
  · have t1 : decide (1 ≤ a) = false := decide_eq_false h1
    clear h h1
    go_enter Try.func9, Try.ntmps9
    go_wp2
    go_ret
    exact ⟨rfl, rfl⟩
/-- The disk of the chapter's example, call by call. -/
def e0 : DS := ⟨2, 16, fun _ => zeros 16, false, 0, 0, 0⟩
def e1 : DS := (e0.write 1 (fill 16 16 7)).1
def e2 : DS := e1.arm 1 3
def e3 : DS := (e2.write 1 (fill 16 16 9)).1
def e4 : DS := e3.on
theorem w1_ : e0.write 1 (fill 16 16 7) = (e1, 0) := by
  have h : (e0.write 1 (fill 16 16 7)).2 = 0 := by decide
  exact Prod.ext rfl h
theorem w2_ : e2.write 1 (fill 16 16 9) = (e3, 180) := by
  have h : (e2.write 1 (fill 16 16 9)).2 = 180 := by decide
  exact Prod.ext rfl h
theorem rd4_ : e4.all 1 = [9, 9, 9, 7, 7, 7, 7, 7, 7, 7, 7, 7, 7, 7, 7, 7] := by decide
theorem wr4_ : e4.wr = 2 := by decide
set_option maxHeartbeats 4000000 in
set_option maxRecDepth 100000 in
theorem awake_c (w : World) : Calls Try.prog 16 #[] w fun e w' => e = .returned (.bool true) ∧ Below w.heap.size w w' := by
  have XT : Aside0 (Ext (fun _ => False) w w) := ⟨Ext.refl _ _⟩
  have tok1 := Aside0.mk trivial
  go_enter Try.func16, Try.ntmps16
  go_wp2_with (first | (go_at_call 10; go_must (refine (new_c 2 16 _ (by decide) (by decide) (by decide) (by decide)).mono ?_; rintro e w1 ⟨g, m, rfl, hg_, hm_, HBc, hD⟩; have F_g : Aside0 (∀ k, k = g → (fun _ => False) k ∨ w.heap.size ≤ k) := ⟨fun k e => .inr (by have := XT.out.size; omega)⟩; have F_m : Aside0 (∀ k, k = m → (fun _ => False) k ∨ w.heap.size ≤ k) := ⟨fun k e => .inr (by have := XT.out.size; omega)⟩; have XTn : Aside0 (Ext (fun _ => False) w w1) := ⟨XT.out.stepB HBc⟩; clear XT; have XT := XTn; clear XTn; have OB_d : Aside0 (IsDisk (Ms [g, m]) w1 g m e0) := ⟨hD _ (by simp [Ms]) (by simp [Ms])⟩; clear hD HBc hg_ hm_; have MB : Aside0 (∀ k, Ms [g, m] k → k < w1.heap.size) := ⟨fun k hk => by have h1_ := OB_d.out.lts; rcases List.mem_cons.1 hk with e | e; exact e ▸ h1_.1; rcases List.mem_cons.1 e with e | e; exact e ▸ h1_.2; exact absurd e (by simp)⟩)) | ((with_reducible refine gate_dst (N := 20) rfl ?_); go_must (refine mk_event rfl (N := 20) rfl .u8 (16) 1 rfl Try.underlying27 info5 (by decide) (by decide) ?hx ?hy (by decide) ?_; (case hx => rfl); (case hy => rfl); intro a hg w2 hbox HBc; have NE_g_a : Aside0 (g ≠ a) := ⟨ne_born (by have := OB_d.out.lts; omega) hg⟩; have NE_a_g : Aside0 (a ≠ g) := ⟨fun e => NE_g_a.out e.symm⟩; have NE_m_a : Aside0 (m ≠ a) := ⟨ne_born (by have := OB_d.out.lts; omega) hg⟩; have NE_a_m : Aside0 (a ≠ m) := ⟨fun e => NE_m_a.out e.symm⟩; have F_a : Aside0 (∀ k, k = a → (fun _ => False) k ∨ w.heap.size ≤ k) := ⟨fnew hg XT.out.size⟩; have RG_a : Aside0 (w.heap.size ≤ a) := ⟨Nat.le_trans XT.out.size (Nat.le_of_eq hg.symm)⟩; have hge := Nat.le_of_eq hg.symm; clear hg; have MBn : Aside0 (∀ k, Ms [a, g, m] k → k < w2.heap.size) := ⟨Ms.ltc _ MB.out HBc.size (blk_lt hbox)⟩; have OBn_d : Aside0 (IsDisk (Ms [a, g, m]) w2 g m e0) := ⟨OB_d.out.more HBc hge⟩; have XTn : Aside0 (Ext (fun _ => False) w w2) := ⟨XT.out.stepB HBc⟩; clear MB OB_d XT; have MB := MBn; have OB_d := OBn_d; have XT := XTn; clear MBn OBn_d XTn; clear hge; have BK_a : Aside0 (w2.heap[a]? = some (.cells ((List.replicate 16 (0 : Int)).map (Value.int .u8)).toArray 5 (0, 0))) := ⟨hbox⟩; clear hbox HBc)) | ((with_reducible refine gate_dst (N := 21) rfl ?_); go_must (refine mk_event rfl (N := 21) rfl .u8 (16) 1 rfl Try.underlying27 info5 (by decide) (by decide) ?hx ?hy (by decide) ?_; (case hx => rfl); (case hy => rfl); intro b hg w3 hbox HBc; have NE_a_b : Aside0 (a ≠ b) := ⟨ne_born (blk_lt BK_a.out) hg⟩; have NE_b_a : Aside0 (b ≠ a) := ⟨fun e => NE_a_b.out e.symm⟩; have NE_g_b : Aside0 (g ≠ b) := ⟨ne_born (by have := OB_d.out.lts; omega) hg⟩; have NE_b_g : Aside0 (b ≠ g) := ⟨fun e => NE_g_b.out e.symm⟩; have NE_m_b : Aside0 (m ≠ b) := ⟨ne_born (by have := OB_d.out.lts; omega) hg⟩; have NE_b_m : Aside0 (b ≠ m) := ⟨fun e => NE_m_b.out e.symm⟩; have F_b : Aside0 (∀ k, k = b → (fun _ => False) k ∨ w.heap.size ≤ k) := ⟨fnew hg XT.out.size⟩; have RG_b : Aside0 (w.heap.size ≤ b) := ⟨Nat.le_trans XT.out.size (Nat.le_of_eq hg.symm)⟩; have hge := Nat.le_of_eq hg.symm; clear hg; have BKn_a : Aside0 (w3.heap[a]? = some (.cells ((List.replicate 16 (0 : Int)).map (Value.int .u8)).toArray 5 (0, 0))) := ⟨Ext.blk (Ext.none_ HBc) BK_a.out (fun e => e)⟩; have MBn : Aside0 (∀ k, Ms [b, a, g, m] k → k < w3.heap.size) := ⟨Ms.ltc _ MB.out HBc.size (blk_lt hbox)⟩; have OBn_d : Aside0 (IsDisk (Ms [b, a, g, m]) w3 g m e0) := ⟨OB_d.out.more HBc hge⟩; have XTn : Aside0 (Ext (fun _ => False) w w3) := ⟨XT.out.stepB HBc⟩; clear BK_a MB OB_d XT; have BK_a := BKn_a; have MB := MBn; have OB_d := OBn_d; have XT := XTn; clear BKn_a MBn OBn_d XTn; clear hge; have BK_b : Aside0 (w3.heap[b]? = some (.cells ((List.replicate 16 (0 : Int)).map (Value.int .u8)).toArray 5 (0, 0))) := ⟨hbox⟩; clear hbox HBc)))
  go_loopw [5] (fun i wr => ∃ k : Nat, k ≤ 16 ∧ i = .int .i64 k ∧ Aside0 (wr.heap[a]? = some (.cells ((fill 16 k 7).map (Value.int .u8)).toArray 5 (0, 0))) ∧ Aside0 (wr.heap[b]? = some (.cells ((fill 16 k 9).map (Value.int .u8)).toArray 5 (0, 0))) ∧ Aside0 (IsDisk (Ms [b, a, g, m]) wr g m e0) ∧ Aside0 (∀ k, Ms [b, a, g, m] k → k < wr.heap.size) ∧ Aside0 (Ext (fun _ => False) w wr)) (fun i _ => 16 - (intOf i).toNat)
  case atStart => exact ⟨0, by omega, rfl, ⟨by rw [fill_zero]; exact BK_a.out⟩, ⟨by rw [fill_zero]; exact BK_b.out⟩, OB_d, MB, XT⟩
  case round =>
    clear BK_a BK_b OB_d MB XT
    obtain ⟨k, hk, rfl, BK_a, BK_b, OB_d, MB, XT⟩ := hrel
    by_cases hlt : k < 16
    · have t1 : decide (k < 16) = true := decide_eq_true hlt
      have HLT := Aside0.mk hlt
      go_wp2_with (first | ((with_reducible refine gate_store (p := 28) rfl ?_); go_must (have rc_ := row_cell BK_a.out (by rw [fill_len hk]; exact HLT.out); have rf_ := blk_frozen BK_a.out k; refine store_event (w1 := ?_) rfl (p := 28) rfl rfl ?hr ?_; rotate_left; (case hr => go_simp; rfl); intro w4 hw_; obtain ⟨hput, HEc⟩ := rowset hw_ BK_a.out; rw [fill_set HLT.out] at hput; clear hw_ rc_ rf_; have BKn_b : Aside0 (w4.heap[b]? = some (.cells ((fill 16 k 9).map (Value.int .u8)).toArray 5 (0, 0))) := ⟨Ext.blk HEc BK_b.out NE_b_a.out⟩; have MBn : Aside0 (∀ k, Ms [b, a, g, m] k → k < w4.heap.size) := ⟨Ms.lt _ MB.out HEc.size⟩; have OBn_d : Aside0 (IsDisk (Ms [b, a, g, m]) w4 g m e0) := ⟨OB_d.out.step HEc (Ms.one (by simp)) NE_g_a.out NE_m_a.out⟩; have XTn : Aside0 (Ext (fun _ => False) w w4) := ⟨XT.out.step HEc (F_a.out)⟩; clear BK_b MB OB_d XT; have BK_b := BKn_b; have MB := MBn; have OB_d := OBn_d; have XT := XTn; clear BKn_b MBn OBn_d XTn; clear BK_a; have BK_a : Aside0 (w4.heap[a]? = some (.cells ((fill 16 (k + 1) 7).map (Value.int .u8)).toArray 5 (0, 0))) := ⟨hput⟩; clear hput HEc)) | ((with_reducible refine gate_store (p := 31) rfl ?_); go_must (have rc_ := row_cell BK_b.out (by rw [fill_len hk]; exact HLT.out); have rf_ := blk_frozen BK_b.out k; refine store_event (w1 := ?_) rfl (p := 31) rfl rfl ?hr ?_; rotate_left; (case hr => go_simp; rfl); intro w5 hw_; obtain ⟨hput, HEc⟩ := rowset hw_ BK_b.out; rw [fill_set HLT.out] at hput; clear hw_ rc_ rf_; have BKn_a : Aside0 (w5.heap[a]? = some (.cells ((fill 16 (k + 1) 7).map (Value.int .u8)).toArray 5 (0, 0))) := ⟨Ext.blk HEc BK_a.out NE_a_b.out⟩; have MBn : Aside0 (∀ k, Ms [b, a, g, m] k → k < w5.heap.size) := ⟨Ms.lt _ MB.out HEc.size⟩; have OBn_d : Aside0 (IsDisk (Ms [b, a, g, m]) w5 g m e0) := ⟨OB_d.out.step HEc (Ms.one (by simp)) NE_g_b.out NE_m_b.out⟩; have XTn : Aside0 (Ext (fun _ => False) w w5) := ⟨XT.out.step HEc (F_b.out)⟩; clear BK_a MB OB_d XT; have BK_a := BKn_a; have MB := MBn; have OB_d := OBn_d; have XT := XTn; clear BKn_a MBn OBn_d XTn; clear BK_b; have BK_b : Aside0 (w5.heap[b]? = some (.cells ((fill 16 (k + 1) 9).map (Value.int .u8)).toArray 5 (0, 0))) := ⟨hput⟩; clear hput HEc)))
      go_roundw
      case rel => exact ⟨k + 1, by omega, by go_num, BK_a, BK_b, OB_d, MB, XT⟩
      case measure => simp [intOf]; omega
    · obtain rfl : k = 16 := by omega
      clear hlt hk
      go_wp2_with (first | (go_at_call 11; have _t := tok1; go_must (refine (write_e OB_d.out 1 MB.out (some ⟨a, 0, none⟩) 16 (fill 16 16 7) (fill_len (Nat.le_refl 16)) (Nat.le_of_eq (fill_len (Nat.le_refl 16))) (rowV BK_a.out (fill_len (Nat.le_refl 16)) (by decide) NE_a_g.out NE_a_m.out) (by decide) (by decide) w1_).mono ?_; rintro e w6 ⟨rfl, hD, HEc⟩; have BKn_a : Aside0 (w6.heap[a]? = some (.cells ((fill 16 16 7).map (Value.int .u8)).toArray 5 (0, 0))) := ⟨Ext.blk HEc BK_a.out (fun e => e.elim NE_a_g.out NE_a_m.out)⟩; have BKn_b : Aside0 (w6.heap[b]? = some (.cells ((fill 16 16 9).map (Value.int .u8)).toArray 5 (0, 0))) := ⟨Ext.blk HEc BK_b.out (fun e => e.elim NE_b_g.out NE_b_m.out)⟩; have MBn : Aside0 (∀ k, Ms [b, a, g, m] k → k < w6.heap.size) := ⟨Ms.lt _ MB.out HEc.size⟩; have XTn : Aside0 (Ext (fun _ => False) w w6) := ⟨XT.out.step HEc (fun k e => Or.elim e (F_g.out k) (F_m.out k))⟩; clear BK_a BK_b MB XT; have BK_a := BKn_a; have BK_b := BKn_b; have MB := MBn; have XT := XTn; clear BKn_a BKn_b MBn XTn; clear OB_d; have OB_d : Aside0 (IsDisk (Ms [b, a, g, m]) w6 g m e1) := ⟨hD⟩; clear hD HEc; clear tok1 _t; have tok2 := Aside0.mk trivial)) | (go_at_call 12; go_must (refine (arm_s OB_d.out 1 3).mono ?_; rintro e w7 ⟨rfl, hD, HEc⟩; have BKn_a : Aside0 (w7.heap[a]? = some (.cells ((fill 16 16 7).map (Value.int .u8)).toArray 5 (0, 0))) := ⟨Ext.blk HEc BK_a.out NE_a_g.out⟩; have BKn_b : Aside0 (w7.heap[b]? = some (.cells ((fill 16 16 9).map (Value.int .u8)).toArray 5 (0, 0))) := ⟨Ext.blk HEc BK_b.out NE_b_g.out⟩; have MBn : Aside0 (∀ k, Ms [b, a, g, m] k → k < w7.heap.size) := ⟨Ms.lt _ MB.out HEc.size⟩; have XTn : Aside0 (Ext (fun _ => False) w w7) := ⟨XT.out.step HEc (F_g.out)⟩; clear BK_a BK_b MB XT; have BK_a := BKn_a; have BK_b := BKn_b; have MB := MBn; have XT := XTn; clear BKn_a BKn_b MBn XTn; clear OB_d; have OB_d : Aside0 (IsDisk (Ms [b, a, g, m]) w7 g m e2) := ⟨hD⟩; clear hD HEc)) | (go_at_call 11; have _t := tok2; go_must (refine (write_e OB_d.out 1 MB.out (some ⟨b, 0, none⟩) 16 (fill 16 16 9) (fill_len (Nat.le_refl 16)) (Nat.le_of_eq (fill_len (Nat.le_refl 16))) (rowV BK_b.out (fill_len (Nat.le_refl 16)) (by decide) NE_b_g.out NE_b_m.out) (by decide) (by decide) w2_).mono ?_; rintro e w8 ⟨rfl, hD, HEc⟩; have BKn_a : Aside0 (w8.heap[a]? = some (.cells ((fill 16 16 7).map (Value.int .u8)).toArray 5 (0, 0))) := ⟨Ext.blk HEc BK_a.out (fun e => e.elim NE_a_g.out NE_a_m.out)⟩; have BKn_b : Aside0 (w8.heap[b]? = some (.cells ((fill 16 16 9).map (Value.int .u8)).toArray 5 (0, 0))) := ⟨Ext.blk HEc BK_b.out (fun e => e.elim NE_b_g.out NE_b_m.out)⟩; have MBn : Aside0 (∀ k, Ms [b, a, g, m] k → k < w8.heap.size) := ⟨Ms.lt _ MB.out HEc.size⟩; have XTn : Aside0 (Ext (fun _ => False) w w8) := ⟨XT.out.step HEc (fun k e => Or.elim e (F_g.out k) (F_m.out k))⟩; clear BK_a BK_b MB XT; have BK_a := BKn_a; have BK_b := BKn_b; have MB := MBn; have XT := XTn; clear BKn_a BKn_b MBn XTn; clear OB_d; have OB_d : Aside0 (IsDisk (Ms [b, a, g, m]) w8 g m e3) := ⟨hD⟩; clear hD HEc; clear tok2 _t; have tok3 := Aside0.mk trivial)) | (go_at_call 15; go_must (refine (on_s OB_d.out).mono ?_; rintro e w9 ⟨rfl, hD, HEc⟩; have BKn_a : Aside0 (w9.heap[a]? = some (.cells ((fill 16 16 7).map (Value.int .u8)).toArray 5 (0, 0))) := ⟨Ext.blk HEc BK_a.out NE_a_g.out⟩; have BKn_b : Aside0 (w9.heap[b]? = some (.cells ((fill 16 16 9).map (Value.int .u8)).toArray 5 (0, 0))) := ⟨Ext.blk HEc BK_b.out NE_b_g.out⟩; have MBn : Aside0 (∀ k, Ms [b, a, g, m] k → k < w9.heap.size) := ⟨Ms.lt _ MB.out HEc.size⟩; have XTn : Aside0 (Ext (fun _ => False) w w9) := ⟨XT.out.step HEc (F_g.out)⟩; clear BK_a BK_b MB XT; have BK_a := BKn_a; have BK_b := BKn_b; have MB := MBn; have XT := XTn; clear BKn_a BKn_b MBn XTn; clear OB_d; have OB_d : Aside0 (IsDisk (Ms [b, a, g, m]) w9 g m e4) := ⟨hD⟩; clear hD HEc)) | (go_at_call 13; go_must (refine (read_e OB_d.out 1 (by decide) rfl rd4_).mono ?_; rintro e w10 ⟨r, rfl, hr, hrow, HBc⟩; have NE_a_r : Aside0 (a ≠ r) := ⟨fun e => by have := blk_lt BK_a.out; omega⟩; have NE_b_r : Aside0 (b ≠ r) := ⟨fun e => by have := blk_lt BK_b.out; omega⟩; have NE_g_r : Aside0 (g ≠ r) := ⟨fun e => by have := OB_d.out.lts; omega⟩; have NE_m_r : Aside0 (m ≠ r) := ⟨fun e => by have := OB_d.out.lts; omega⟩; have NE_r_a : Aside0 (r ≠ a) := ⟨fun e => NE_a_r.out e.symm⟩; have NE_r_b : Aside0 (r ≠ b) := ⟨fun e => NE_b_r.out e.symm⟩; have NE_r_g : Aside0 (r ≠ g) := ⟨fun e => NE_g_r.out e.symm⟩; have NE_r_m : Aside0 (r ≠ m) := ⟨fun e => NE_m_r.out e.symm⟩; have BKn_a : Aside0 (w10.heap[a]? = some (.cells ((fill 16 16 7).map (Value.int .u8)).toArray 5 (0, 0))) := ⟨Ext.blk (Ext.none_ HBc) BK_a.out (fun e => e)⟩; have BKn_b : Aside0 (w10.heap[b]? = some (.cells ((fill 16 16 9).map (Value.int .u8)).toArray 5 (0, 0))) := ⟨Ext.blk (Ext.none_ HBc) BK_b.out (fun e => e)⟩; have MBn : Aside0 (∀ k, Ms [b, a, g, m] k → k < w10.heap.size) := ⟨Ms.lt _ MB.out HBc.size⟩; have OBn_d : Aside0 (IsDisk (Ms [b, a, g, m]) w10 g m e4) := ⟨OB_d.out.step (Ext.none_ HBc) (fun _ e => False.elim e) (fun e => e) (fun e => e)⟩; have XTn : Aside0 (Ext (fun _ => False) w w10) := ⟨XT.out.stepB HBc⟩; clear BK_a BK_b MB OB_d XT; have BK_a := BKn_a; have BK_b := BKn_b; have MB := MBn; have OB_d := OBn_d; have XT := XTn; clear BKn_a BKn_b MBn OBn_d XTn; have BK_r : Aside0 (w10.heap[r]? = some (.cells (([9, 9, 9, 7, 7, 7, 7, 7, 7, 7, 7, 7, 7, 7, 7, 7]).map (Value.int .u8)).toArray 5 (0, 0))) := ⟨hrow⟩; clear hrow HBc hr); have lr2 : w10.cell? ⟨r, 2, none⟩ = some (.int .u8 9) := row_cell BK_r.out (i := 2) (by decide); have lr3 : w10.cell? ⟨r, 3, none⟩ = some (.int .u8 7) := row_cell BK_r.out (i := 3) (by decide)) | (go_at_call 17; go_must (refine (writes_s OB_d.out wr4_).mono ?_; rintro e w' ⟨rfl, rfl⟩)))
      go_ret
      exact ⟨rfl, XT.out.below (fun _ e => e.elim)⟩
set_option maxHeartbeats 4000000 in
set_option maxRecDepth 100000 in
theorem nil_walk (n : Int) (A : Option Addr) (c : Nat) (l : List Int) (w : World) : Calls Try.prog 5 #[.int .i64 n, .slice A l.length c] w fun e w' => e = .returned (.bool true) ∧ Below w.heap.size w w' := by
  go_enter Try.func5, Try.ntmps5
  go_wp2_with (first | (go_at_call 15; refine (on_nil _).mono ?_; rintro e w' ⟨rfl, rfl⟩) | (go_at_call 12; refine (arm_nil _ _ _).mono ?_; rintro e w' ⟨rfl, rfl⟩) | (go_at_call 13; refine (read_nil _ _).mono ?_; rintro e w' ⟨rfl, rfl⟩) | (go_at_call 18; refine (size_nil _).mono ?_; rintro e w' ⟨rfl, rfl⟩) | (go_at_call 16; refine (awake_c _).mono ?_; rintro e w1 ⟨rfl, HB⟩; have HB := Aside0.mk HB) | (go_at_call 11; refine (write_nil _ _ _ _ _).mono ?_; rintro e w' ⟨rfl, rfl⟩) | (go_at_call 14; refine (up_nil _).mono ?_; rintro e w' ⟨rfl, rfl⟩) | (go_at_call 17; refine (writes_nil _).mono ?_; rintro e w' ⟨rfl, rfl⟩))
  go_ret
  exact ⟨rfl, HB.out⟩
theorem nil_row (n : Int) (A : Option Addr) (c : Nat) (l : List Int) (w : World) (_ : -9223372036854775808 ≤ n ∧ n ≤ 9223372036854775807) (_ : Aside0 (Kd.C (Kd.int .u8) w A l.length l)) (_ : Aside0 (l.length ≤ c)) (_ : ∀ x ∈ l, 0 ≤ x ∧ x < 256) : Calls Try.prog 5 #[.int .i64 n, .slice A l.length c] w fun e w' => e = .returned (.bool true) ∧ Below w.heap.size w w' := nil_walk n A c l w
end Go.Proofs.Ytfkhffffokkheaa.DskB

/- The walk of DiskKeeps. (printed by gen_dlaw.py) -/
import Derived.Test.YtfkhffffokkheaaDskC
import Derived.Test.YtfkhffffokkheaaDskB
import Derived.Deep.LoopGhost
namespace Go.Proofs.Ytfkhffffokkheaa.DskD
open Go.RowKit Go.Proofs.YtfkhffffokkheaaW.PrintWords Go.Proofs.YtfkhffffokkheaaW.PrintLast Go.Proofs.YtfkhffffokkheaaW.PrintMore Go.Proofs.Ytfkhffffokkheaa.Core Go.Proofs.Ytfkhffffokkheaa.Wk Go.Proofs.Ytfkhffffokkheaa.Dsk Go.Proofs.Ytfkhffffokkheaa.DskC Go.Proofs.Ytfkhffffokkheaa.DskB
set_option linter.unusedVariables false
set_option linter.unusedSimpArgs false
attribute [local go_sem] max2_int min2_int max_two min_two
theorem counts_row (a b n q : Int) (w : World) (_ : -9223372036854775808 ≤ a ∧ a ≤ 9223372036854775807) (_ : -9223372036854775808 ≤ b ∧ b ≤ 9223372036854775807) (hn : -9223372036854775808 ≤ n ∧ n ≤ 9223372036854775807) (_ : -9223372036854775808 ≤ q ∧ q ≤ 9223372036854775807) : Calls Try.prog 4 #[.int .i64 a, .int .i64 b, .int .i64 n, .int .i64 q] w fun e w' => e = .returned (.bool true) ∧ Below w.heap.size w w' := DskC.counts_walk a b n q hn.2 w
section
variable {sec byt : Nat} {all : Int → List Int} {left keep wr k : Int} {b : List Int}
theorem wfull (h0 : 0 ≤ k) (h1 : k < sec) (hb : b.length = byt) (hl : left ≤ 0) : (DS.mk sec byt all false left keep wr).write k b = (⟨sec, byt, put all k b b.length, false, left, keep, wr + 1⟩, 0) := by
  unfold DS.write
  rw [if_neg (by rw [ready_ok rfl h0 h1]; simp), if_neg (by simpa using hb), if_pos hl]
theorem wnext (h0 : 0 ≤ k) (h1 : k < sec) (hb : b.length = byt) : (DS.mk sec byt all false 2 keep wr).write k b = (⟨sec, byt, put all k b b.length, false, 1, keep, wr + 1⟩, 0) := by
  unfold DS.write
  rw [if_neg (by rw [ready_ok rfl h0 h1]; simp), if_neg (by simpa using hb), if_neg (by simp), if_neg (by simp)]
  rfl
theorem wcut (h0 : 0 ≤ k) (h1 : k < sec) (hb : b.length = byt) : (DS.mk sec byt all false 1 keep wr).write k b = (⟨sec, byt, put all k b (cutn keep b.length), true, 0, keep, wr + 1⟩, 180) := by
  unfold DS.write
  rw [if_neg (by rw [ready_ok rfl h0 h1]; simp), if_neg (by simpa using hb), if_neg (by simp), if_pos (by simp)]
end
/-- What the sectors have in the end. -/
def fin (byt : Nat) (k x y keep : Int) : Int → List Int := put (put (put (fun _ => zeros byt) k (fill byt byt x) byt) k (fill byt byt x) byt) k (fill byt byt y) (cutn keep byt)
def wants (k x y keep j i : Int) : Int := if j = k then (if i < keep then y else x) else 0
theorem fin_len (byt : Nat) (k x y keep j : Int) : (fin byt k x y keep j).length = byt := by
  have h1 := fill_len (Nat.le_refl byt) (x := x)
  have h2 := fill_len (Nat.le_refl byt) (x := y)
  have hc : cutn keep byt ≤ byt := by unfold cutn; split; omega; split <;> omega
  have hz : (zeros byt).length = byt := List.length_replicate
  unfold fin put
  by_cases e : j = k
  · simp only [if_pos e, if_true, List.length_append, List.length_take, List.length_drop, h1, h2, hz]
    omega
  · simp only [if_neg e]
    simp [zeros]
theorem fin_at (byt : Nat) (k x y keep j : Int) {i : Nat} (hi : i < byt) : (fin byt k x y keep j).getD i 0 = wants k x y keep j i := by
  unfold fin put wants
  by_cases e : j = k
  · simp only [if_pos e, if_true]
    have h1 := fill_len (Nat.le_refl byt) (x := x)
    rw [fill_all, fill_all] at *
    rw [List.getD_eq_getElem?_getD]
    have hd : (List.replicate byt x).take byt ++ ((List.replicate byt x).take byt ++ (zeros byt).drop byt).drop byt = List.replicate byt x := by simp [zeros]
    rw [hd]
    unfold cutn
    by_cases hk : keep < 0
    · rw [if_pos hk, if_neg (by omega), List.take_zero, List.nil_append, List.drop_zero]
      simp [hi]
    · rw [if_neg hk]
      by_cases hk2 : byt < keep.toNat
      · rw [if_pos hk2, if_pos (by omega)]
        simp [hi]
      · rw [if_neg hk2]
        by_cases hik : (i : Int) < keep
        · rw [if_pos hik, List.getElem?_append_left (by simp; omega), List.take_replicate, List.getElem?_replicate, if_pos (by omega)]
          rfl
        · rw [if_neg hik, List.getElem?_append_right (by simp; omega), List.drop_replicate, List.getElem?_replicate, if_pos (by simp; omega)]
          rfl
  · simp only [if_neg e]
    simp [zeros, List.getD_eq_getElem?_getD, hi]
set_option maxHeartbeats 4000000 in
set_option maxRecDepth 100000 in
theorem keeps_main (sec byt : Nat) (k x y keep : Int) (w : World) (hm : May sec byt) (h1 : 1 ≤ sec) (h2 : sec ≤ 30) (h3 : 16 ≤ byt) (h4 : byt ≤ 100) (h5 : 0 ≤ k) (h6 : k < sec) : Calls Try.prog 3 #[.int .i64 sec, .int .i64 byt, .int .i64 k, .int .u8 x, .int .u8 y, .int .i64 keep] w fun e w' => e = .returned (.bool true) ∧ Below w.heap.size w w' := by
  have HM := Aside0.mk hm
  have tt0 : decide (30 < (sec : Int)) = false := decide_eq_false (by omega)
  have tt1 : decide (100 < (byt : Int)) = false := decide_eq_false (by omega)
  have tt2 : decide (k < 0) = false := decide_eq_false (by omega)
  have tt3 : decide ((sec : Int) ≤ k) = false := decide_eq_false (by omega)
  have tt4 : decide (30 < sec) = false := decide_eq_false (by omega)
  have tt5 : decide (100 < byt) = false := decide_eq_false (by omega)
  have SZ := Aside0.mk (And.intro h1 (And.intro h2 (And.intro h3 h4))); have H5 := Aside0.mk h5; have H6 := Aside0.mk h6
  clear hm
  have tok1 := Aside0.mk trivial; have up1 := Aside0.mk trivial
  have XT : Aside0 (Ext (fun _ => False) w w) := ⟨Ext.refl _ _⟩
  go_enter Try.func3, Try.ntmps3
  go_wp2_with (first | (go_at_call 9; refine (may_yes _ _ _ HM.out).mono ?_; rintro e w' ⟨rfl, rfl⟩) | (go_at_call 10; refine (new_c sec byt _ SZ.out.1 (by have := SZ.out; omega) SZ.out.2.2.1 (by have := SZ.out; omega)).mono ?_; rintro e w1 ⟨g, m, rfl, hg_, hm_, HBc, hD⟩; have F_g : Aside0 (∀ k, k = g → (fun _ => False) k ∨ w.heap.size ≤ k) := ⟨fun k e => .inr (by have := XT.out.size; omega)⟩; have F_m : Aside0 (∀ k, k = m → (fun _ => False) k ∨ w.heap.size ≤ k) := ⟨fun k e => .inr (by have := XT.out.size; omega)⟩; have XTn : Aside0 (Ext (fun _ => False) w w1) := ⟨XT.out.stepB HBc⟩; clear XT; have XT := XTn; clear XTn; have OB_d : Aside0 (IsDisk (Ms [g, m]) w1 g m ⟨sec, byt, fun _ => zeros byt, false, 0, 0, 0⟩) := ⟨hD _ (by simp [Ms]) (by simp [Ms])⟩; clear hD HBc hg_ hm_; have MB : Aside0 (∀ k, Ms [g, m] k → k < w1.heap.size) := ⟨fun k hk => by have h1_ := OB_d.out.lts; rcases List.mem_cons.1 hk with e | e; exact e ▸ h1_.1; rcases List.mem_cons.1 e with e | e; exact e ▸ h1_.2; exact absurd e (by simp)⟩) | ((with_reducible refine gate_dst (N := 63) rfl ?_); refine mk_event rfl (N := 63) rfl .u8 (byt) 1 rfl Try.underlying27 info5 (by decide) (by decide) ?hx ?hy (by have := SZ.out; omega) ?_; (case hx => rfl); (case hy => rfl); intro a hg w2 hbox HBc; have NE_g_a : Aside0 (g ≠ a) := ⟨ne_born (by have := OB_d.out.lts; omega) hg⟩; have NE_a_g : Aside0 (a ≠ g) := ⟨fun e => NE_g_a.out e.symm⟩; have NE_m_a : Aside0 (m ≠ a) := ⟨ne_born (by have := OB_d.out.lts; omega) hg⟩; have NE_a_m : Aside0 (a ≠ m) := ⟨fun e => NE_m_a.out e.symm⟩; have F_a : Aside0 (∀ k, k = a → (fun _ => False) k ∨ w.heap.size ≤ k) := ⟨fnew hg XT.out.size⟩; have RG_a : Aside0 (w.heap.size ≤ a) := ⟨Nat.le_trans XT.out.size (Nat.le_of_eq hg.symm)⟩; have hge := Nat.le_of_eq hg.symm; clear hg; have MBn : Aside0 (∀ k, Ms [a, g, m] k → k < w2.heap.size) := ⟨Ms.ltc _ MB.out HBc.size (blk_lt hbox)⟩; have OBn_d : Aside0 (IsDisk (Ms [a, g, m]) w2 g m ⟨sec, byt, fun _ => zeros byt, false, 0, 0, 0⟩) := ⟨OB_d.out.more HBc hge⟩; have XTn : Aside0 (Ext (fun _ => False) w w2) := ⟨XT.out.stepB HBc⟩; clear MB OB_d XT; have MB := MBn; have OB_d := OBn_d; have XT := XTn; clear MBn OBn_d XTn; clear hge; have BK_a : Aside0 (w2.heap[a]? = some (.cells ((List.replicate byt (0 : Int)).map (Value.int .u8)).toArray 5 (0, 0))) := ⟨hbox⟩; clear hbox HBc) | ((with_reducible refine gate_dst (N := 65) rfl ?_); refine mk_event rfl (N := 65) rfl .u8 (byt) 1 rfl Try.underlying27 info5 (by decide) (by decide) ?hx ?hy (by have := SZ.out; omega) ?_; (case hx => rfl); (case hy => rfl); intro b hg w3 hbox HBc; have NE_a_b : Aside0 (a ≠ b) := ⟨ne_born (blk_lt BK_a.out) hg⟩; have NE_b_a : Aside0 (b ≠ a) := ⟨fun e => NE_a_b.out e.symm⟩; have NE_g_b : Aside0 (g ≠ b) := ⟨ne_born (by have := OB_d.out.lts; omega) hg⟩; have NE_b_g : Aside0 (b ≠ g) := ⟨fun e => NE_g_b.out e.symm⟩; have NE_m_b : Aside0 (m ≠ b) := ⟨ne_born (by have := OB_d.out.lts; omega) hg⟩; have NE_b_m : Aside0 (b ≠ m) := ⟨fun e => NE_m_b.out e.symm⟩; have F_b : Aside0 (∀ k, k = b → (fun _ => False) k ∨ w.heap.size ≤ k) := ⟨fnew hg XT.out.size⟩; have RG_b : Aside0 (w.heap.size ≤ b) := ⟨Nat.le_trans XT.out.size (Nat.le_of_eq hg.symm)⟩; have hge := Nat.le_of_eq hg.symm; clear hg; have BKn_a : Aside0 (w3.heap[a]? = some (.cells ((List.replicate byt (0 : Int)).map (Value.int .u8)).toArray 5 (0, 0))) := ⟨Ext.blk (Ext.none_ HBc) BK_a.out (fun e => e)⟩; have MBn : Aside0 (∀ k, Ms [b, a, g, m] k → k < w3.heap.size) := ⟨Ms.ltc _ MB.out HBc.size (blk_lt hbox)⟩; have OBn_d : Aside0 (IsDisk (Ms [b, a, g, m]) w3 g m ⟨sec, byt, fun _ => zeros byt, false, 0, 0, 0⟩) := ⟨OB_d.out.more HBc hge⟩; have XTn : Aside0 (Ext (fun _ => False) w w3) := ⟨XT.out.stepB HBc⟩; clear BK_a MB OB_d XT; have BK_a := BKn_a; have MB := MBn; have OB_d := OBn_d; have XT := XTn; clear BKn_a MBn OBn_d XTn; clear hge; have BK_b : Aside0 (w3.heap[b]? = some (.cells ((List.replicate byt (0 : Int)).map (Value.int .u8)).toArray 5 (0, 0))) := ⟨hbox⟩; clear hbox HBc))
  go_loopw [17] (fun v wr => ∃ i : Nat, i ≤ byt ∧ v = .int .i64 i ∧ Aside0 (wr.heap[a]? = some (.cells ((fill byt i x).map (Value.int .u8)).toArray 5 (0, 0))) ∧ Aside0 (wr.heap[b]? = some (.cells ((fill byt i y).map (Value.int .u8)).toArray 5 (0, 0))) ∧ Aside0 (IsDisk (Ms [b, a, g, m]) wr g m ⟨sec, byt, fun _ => zeros byt, false, 0, 0, 0⟩) ∧ Aside0 (∀ k, Ms [b, a, g, m] k → k < wr.heap.size) ∧ Aside0 (Ext (fun _ => False) w wr)) (fun v _ => byt - (intOf v).toNat)
  case atStart => exact ⟨0, by omega, rfl, ⟨by rw [fill_zero]; exact BK_a.out⟩, ⟨by rw [fill_zero]; exact BK_b.out⟩, OB_d, MB, XT⟩
  case round =>
    clear BK_a BK_b OB_d MB XT
    obtain ⟨i, hi, rfl, BK_a, BK_b, OB_d, MB, XT⟩ := hrel
    by_cases hlt : i < byt
    · have u1 : decide (i < byt) = true := decide_eq_true hlt; have u2 : decide ((i : Int) < (byt : Int)) = true := decide_eq_true (by omega)
      have HLT := Aside0.mk hlt; have HK := Aside0.mk hi
      go_wp2_with (first | ((with_reducible refine gate_store (p := 74) rfl ?_); have rc_ := row_cell BK_a.out (by rw [fill_len HK.out]; exact HLT.out); have rf_ := blk_frozen BK_a.out i; refine store_event (w1 := ?_) rfl (p := 74) rfl rfl ?hr ?_; rotate_left; (case hr => go_simp; rfl); intro w4 hw_; obtain ⟨hput, HEc⟩ := rowset hw_ BK_a.out; rw [fill_set HLT.out] at hput; clear hw_ rc_ rf_; have BKn_b : Aside0 (w4.heap[b]? = some (.cells ((fill byt i y).map (Value.int .u8)).toArray 5 (0, 0))) := ⟨Ext.blk HEc BK_b.out NE_b_a.out⟩; have MBn : Aside0 (∀ k, Ms [b, a, g, m] k → k < w4.heap.size) := ⟨Ms.lt _ MB.out HEc.size⟩; have OBn_d : Aside0 (IsDisk (Ms [b, a, g, m]) w4 g m ⟨sec, byt, fun _ => zeros byt, false, 0, 0, 0⟩) := ⟨OB_d.out.step HEc (Ms.one (by simp)) NE_g_a.out NE_m_a.out⟩; have XTn : Aside0 (Ext (fun _ => False) w w4) := ⟨XT.out.step HEc (F_a.out)⟩; clear BK_b MB OB_d XT; have BK_b := BKn_b; have MB := MBn; have OB_d := OBn_d; have XT := XTn; clear BKn_b MBn OBn_d XTn; clear BK_a; have BK_a : Aside0 (w4.heap[a]? = some (.cells ((fill byt (i + 1) x).map (Value.int .u8)).toArray 5 (0, 0))) := ⟨hput⟩; clear hput HEc) | ((with_reducible refine gate_store (p := 78) rfl ?_); have rc_ := row_cell BK_b.out (by rw [fill_len HK.out]; exact HLT.out); have rf_ := blk_frozen BK_b.out i; refine store_event (w1 := ?_) rfl (p := 78) rfl rfl ?hr ?_; rotate_left; (case hr => go_simp; rfl); intro w5 hw_; obtain ⟨hput, HEc⟩ := rowset hw_ BK_b.out; rw [fill_set HLT.out] at hput; clear hw_ rc_ rf_; have BKn_a : Aside0 (w5.heap[a]? = some (.cells ((fill byt (i + 1) x).map (Value.int .u8)).toArray 5 (0, 0))) := ⟨Ext.blk HEc BK_a.out NE_a_b.out⟩; have MBn : Aside0 (∀ k, Ms [b, a, g, m] k → k < w5.heap.size) := ⟨Ms.lt _ MB.out HEc.size⟩; have OBn_d : Aside0 (IsDisk (Ms [b, a, g, m]) w5 g m ⟨sec, byt, fun _ => zeros byt, false, 0, 0, 0⟩) := ⟨OB_d.out.step HEc (Ms.one (by simp)) NE_g_b.out NE_m_b.out⟩; have XTn : Aside0 (Ext (fun _ => False) w w5) := ⟨XT.out.step HEc (F_b.out)⟩; clear BK_a MB OB_d XT; have BK_a := BKn_a; have MB := MBn; have OB_d := OBn_d; have XT := XTn; clear BKn_a MBn OBn_d XTn; clear BK_b; have BK_b : Aside0 (w5.heap[b]? = some (.cells ((fill byt (i + 1) y).map (Value.int .u8)).toArray 5 (0, 0))) := ⟨hput⟩; clear hput HEc))
      go_roundw
      case rel => exact ⟨i + 1, by omega, by go_num, BK_a, BK_b, OB_d, MB, XT⟩
      case measure => simp [intOf]; omega
    · obtain rfl : i = byt := by omega
      have u1 : decide (i < i) = false := decide_eq_false (by omega)
      clear hlt hi
      have e1 : Aside0 ((⟨sec, i, (fun _ => zeros i), false, 0, 0, 0⟩ : DS).write k (fill i i x) = ((⟨sec, i, put (fun _ => zeros i) k (fill i i x) i, false, 0, 0, 0 + 1⟩ : DS), 0)) := ⟨(wfull H5.out H6.out (fill_len (Nat.le_refl i) (x := x)) (by decide)).trans (by rw [(fill_len (Nat.le_refl i) (x := x))])⟩
      have e3 : Aside0 ((⟨sec, i, put (fun _ => zeros i) k (fill i i x) i, false, 2, keep, 0 + 1⟩ : DS).write k (fill i i x) = ((⟨sec, i, put (put (fun _ => zeros i) k (fill i i x) i) k (fill i i x) i, false, 1, keep, 0 + 1 + 1⟩ : DS), 0)) := ⟨(wnext H5.out H6.out (fill_len (Nat.le_refl i) (x := x))).trans (by rw [(fill_len (Nat.le_refl i) (x := x))])⟩
      have e4 : Aside0 ((⟨sec, i, put (put (fun _ => zeros i) k (fill i i x) i) k (fill i i x) i, false, 1, keep, 0 + 1 + 1⟩ : DS).write k (fill i i y) = ((⟨sec, i, fin i k x y keep, true, 0, keep, 0 + 1 + 1 + 1⟩ : DS), 180)) := ⟨(wcut H5.out H6.out (fill_len (Nat.le_refl i) (x := y))).trans (by rw [(fill_len (Nat.le_refl i) (x := y))]; rfl)⟩
      have e5 : Aside0 (((⟨sec, i, fin i k x y keep, false, 0, keep, 0 + 1 + 1 + 1⟩ : DS).write k (fill i i y)).2 = 0) := ⟨by rw [wfull H5.out H6.out (fill_len (Nat.le_refl i) (x := y)) (by decide)]⟩
      go_wp2_with (first | (go_at_call 11; have _t := tok1; refine (write_e OB_d.out k MB.out (some ⟨a, 0, none⟩) i (fill i i x) (fill_len (Nat.le_refl i) (x := x)) (Nat.le_of_eq (fill_len (Nat.le_refl i) (x := x))) (rowV BK_a.out (fill_len (Nat.le_refl i) (x := x)) (by have := SZ.out; omega) NE_a_g.out NE_a_m.out) (by show (0 : Int) ≤ _; decide) (by show (0 : Int) ≤ _; decide) e1.out).mono ?_; rintro e w6 ⟨rfl, hD, HEc⟩; have BKn_a : Aside0 (w6.heap[a]? = some (.cells ((fill i i x).map (Value.int .u8)).toArray 5 (0, 0))) := ⟨Ext.blk HEc BK_a.out (fun e => e.elim NE_a_g.out NE_a_m.out)⟩; have BKn_b : Aside0 (w6.heap[b]? = some (.cells ((fill i i y).map (Value.int .u8)).toArray 5 (0, 0))) := ⟨Ext.blk HEc BK_b.out (fun e => e.elim NE_b_g.out NE_b_m.out)⟩; have MBn : Aside0 (∀ k, Ms [b, a, g, m] k → k < w6.heap.size) := ⟨Ms.lt _ MB.out HEc.size⟩; have XTn : Aside0 (Ext (fun _ => False) w w6) := ⟨XT.out.step HEc (fun k e => Or.elim e (F_g.out k) (F_m.out k))⟩; clear BK_a BK_b MB XT; have BK_a := BKn_a; have BK_b := BKn_b; have MB := MBn; have XT := XTn; clear BKn_a BKn_b MBn XTn; clear OB_d; have OB_d : Aside0 (IsDisk (Ms [b, a, g, m]) w6 g m (⟨sec, i, put (fun _ => zeros i) k (fill i i x) i, false, 0, 0, 0 + 1⟩ : DS)) := ⟨hD⟩; clear hD HEc; clear tok1 _t; have tok2 := Aside0.mk trivial) | (go_at_call 12; refine (arm_s OB_d.out 2 keep).mono ?_; rintro e w7 ⟨rfl, hD, HEc⟩; have BKn_a : Aside0 (w7.heap[a]? = some (.cells ((fill i i x).map (Value.int .u8)).toArray 5 (0, 0))) := ⟨Ext.blk HEc BK_a.out NE_a_g.out⟩; have BKn_b : Aside0 (w7.heap[b]? = some (.cells ((fill i i y).map (Value.int .u8)).toArray 5 (0, 0))) := ⟨Ext.blk HEc BK_b.out NE_b_g.out⟩; have MBn : Aside0 (∀ k, Ms [b, a, g, m] k → k < w7.heap.size) := ⟨Ms.lt _ MB.out HEc.size⟩; have XTn : Aside0 (Ext (fun _ => False) w w7) := ⟨XT.out.step HEc (F_g.out)⟩; clear BK_a BK_b MB XT; have BK_a := BKn_a; have BK_b := BKn_b; have MB := MBn; have XT := XTn; clear BKn_a BKn_b MBn XTn; clear OB_d; have OB_d : Aside0 (IsDisk (Ms [b, a, g, m]) w7 g m (⟨sec, i, put (fun _ => zeros i) k (fill i i x) i, false, 2, keep, 0 + 1⟩ : DS)) := ⟨hD⟩; clear hD HEc) | (go_at_call 11; have _t := tok2; refine (write_e OB_d.out k MB.out (some ⟨a, 0, none⟩) i (fill i i x) (fill_len (Nat.le_refl i) (x := x)) (Nat.le_of_eq (fill_len (Nat.le_refl i) (x := x))) (rowV BK_a.out (fill_len (Nat.le_refl i) (x := x)) (by have := SZ.out; omega) NE_a_g.out NE_a_m.out) (by show (0 + 1 : Int) ≤ _; decide) (by show (2 : Int) ≤ _; decide) e3.out).mono ?_; rintro e w8 ⟨rfl, hD, HEc⟩; have BKn_a : Aside0 (w8.heap[a]? = some (.cells ((fill i i x).map (Value.int .u8)).toArray 5 (0, 0))) := ⟨Ext.blk HEc BK_a.out (fun e => e.elim NE_a_g.out NE_a_m.out)⟩; have BKn_b : Aside0 (w8.heap[b]? = some (.cells ((fill i i y).map (Value.int .u8)).toArray 5 (0, 0))) := ⟨Ext.blk HEc BK_b.out (fun e => e.elim NE_b_g.out NE_b_m.out)⟩; have MBn : Aside0 (∀ k, Ms [b, a, g, m] k → k < w8.heap.size) := ⟨Ms.lt _ MB.out HEc.size⟩; have XTn : Aside0 (Ext (fun _ => False) w w8) := ⟨XT.out.step HEc (fun k e => Or.elim e (F_g.out k) (F_m.out k))⟩; clear BK_a BK_b MB XT; have BK_a := BKn_a; have BK_b := BKn_b; have MB := MBn; have XT := XTn; clear BKn_a BKn_b MBn XTn; clear OB_d; have OB_d : Aside0 (IsDisk (Ms [b, a, g, m]) w8 g m (⟨sec, i, put (put (fun _ => zeros i) k (fill i i x) i) k (fill i i x) i, false, 1, keep, 0 + 1 + 1⟩ : DS)) := ⟨hD⟩; clear hD HEc; clear tok2 _t; have tok3 := Aside0.mk trivial) | (go_at_call 11; have _t := tok3; refine (write_e OB_d.out k MB.out (some ⟨b, 0, none⟩) i (fill i i y) (fill_len (Nat.le_refl i) (x := y)) (Nat.le_of_eq (fill_len (Nat.le_refl i) (x := y))) (rowV BK_b.out (fill_len (Nat.le_refl i) (x := y)) (by have := SZ.out; omega) NE_b_g.out NE_b_m.out) (by show (0 + 1 + 1 : Int) ≤ _; decide) (by show (1 : Int) ≤ _; decide) e4.out).mono ?_; rintro e w9 ⟨rfl, hD, HEc⟩; have BKn_a : Aside0 (w9.heap[a]? = some (.cells ((fill i i x).map (Value.int .u8)).toArray 5 (0, 0))) := ⟨Ext.blk HEc BK_a.out (fun e => e.elim NE_a_g.out NE_a_m.out)⟩; have BKn_b : Aside0 (w9.heap[b]? = some (.cells ((fill i i y).map (Value.int .u8)).toArray 5 (0, 0))) := ⟨Ext.blk HEc BK_b.out (fun e => e.elim NE_b_g.out NE_b_m.out)⟩; have MBn : Aside0 (∀ k, Ms [b, a, g, m] k → k < w9.heap.size) := ⟨Ms.lt _ MB.out HEc.size⟩; have XTn : Aside0 (Ext (fun _ => False) w w9) := ⟨XT.out.step HEc (fun k e => Or.elim e (F_g.out k) (F_m.out k))⟩; clear BK_a BK_b MB XT; have BK_a := BKn_a; have BK_b := BKn_b; have MB := MBn; have XT := XTn; clear BKn_a BKn_b MBn XTn; clear OB_d; have OB_d : Aside0 (IsDisk (Ms [b, a, g, m]) w9 g m (⟨sec, i, fin i k x y keep, true, 0, keep, 0 + 1 + 1 + 1⟩ : DS)) := ⟨hD⟩; clear hD HEc; clear tok3 _t; have tok4 := Aside0.mk trivial) | (go_at_call 13; refine (read_no OB_d.out k 180 (ready_down rfl) (by decide)).mono ?_; rintro e w' ⟨rfl, rfl⟩) | (go_at_call 14; have _t := up1; refine (up_s OB_d.out (v := false) rfl).mono ?_; rintro e w' ⟨rfl, rfl⟩; clear up1 _t; have up2 := Aside0.mk trivial) | (go_at_call 15; refine (on_s OB_d.out).mono ?_; rintro e w10 ⟨rfl, hD, HEc⟩; have BKn_a : Aside0 (w10.heap[a]? = some (.cells ((fill i i x).map (Value.int .u8)).toArray 5 (0, 0))) := ⟨Ext.blk HEc BK_a.out NE_a_g.out⟩; have BKn_b : Aside0 (w10.heap[b]? = some (.cells ((fill i i y).map (Value.int .u8)).toArray 5 (0, 0))) := ⟨Ext.blk HEc BK_b.out NE_b_g.out⟩; have MBn : Aside0 (∀ k, Ms [b, a, g, m] k → k < w10.heap.size) := ⟨Ms.lt _ MB.out HEc.size⟩; have XTn : Aside0 (Ext (fun _ => False) w w10) := ⟨XT.out.step HEc (F_g.out)⟩; clear BK_a BK_b MB XT; have BK_a := BKn_a; have BK_b := BKn_b; have MB := MBn; have XT := XTn; clear BKn_a BKn_b MBn XTn; clear OB_d; have OB_d : Aside0 (IsDisk (Ms [b, a, g, m]) w10 g m (⟨sec, i, fin i k x y keep, false, 0, keep, 0 + 1 + 1 + 1⟩ : DS)) := ⟨hD⟩; clear hD HEc) | (go_at_call 14; have _t := up2; refine (up_s OB_d.out (v := true) rfl).mono ?_; rintro e w' ⟨rfl, rfl⟩; clear up2 _t; have up3 := Aside0.mk trivial))
      go_loopw [24] (fun v wr => ∃ j : Nat, j ≤ sec ∧ v = .int .i64 j ∧ Aside0 (wr.heap[a]? = some (.cells ((fill i i x).map (Value.int .u8)).toArray 5 (0, 0))) ∧ Aside0 (wr.heap[b]? = some (.cells ((fill i i y).map (Value.int .u8)).toArray 5 (0, 0))) ∧ Aside0 (IsDisk (Ms [b, a, g, m]) wr g m (⟨sec, i, fin i k x y keep, false, 0, keep, 0 + 1 + 1 + 1⟩ : DS)) ∧ Aside0 (∀ k, Ms [b, a, g, m] k → k < wr.heap.size) ∧ Aside0 (Ext (fun _ => False) w wr)) (fun v _ => sec - (intOf v).toNat)
      case atStart => exact ⟨0, by omega, rfl, BK_a, BK_b, OB_d, MB, XT⟩
      case round =>
        clear BK_a BK_b OB_d MB XT
        obtain ⟨j, hj, rfl, BK_a, BK_b, OB_d, MB, XT⟩ := hrel
        by_cases hlt : j < sec
        · have v1 : decide (j < sec) = true := decide_eq_true hlt; have v2 : decide ((j : Int) < (sec : Int)) = true := decide_eq_true (by omega)
          have HR : Aside0 ((⟨sec, i, fin i k x y keep, false, 0, keep, 0 + 1 + 1 + 1⟩ : DS).ready j = 0) := ⟨ready_ok rfl (by omega) (by show (j : Int) < (sec : Int); omega)⟩
          obtain ⟨ct, hct⟩ : ∃ ct, fin i k x y keep j = ct := ⟨_, rfl⟩
          have HCT := Aside0.mk hct; have HCL : Aside0 (ct.length = i) := ⟨by rw [← hct]; exact fin_len ..⟩; clear hct
          go_wp2_with (first | (go_at_call 13; refine (read_e OB_d.out j HR.out rfl HCT.out).mono ?_; rintro e w11 ⟨r, rfl, hr, hrow, HBc⟩; have NE_a_r : Aside0 (a ≠ r) := ⟨fun e => by have := blk_lt BK_a.out; omega⟩; have NE_b_r : Aside0 (b ≠ r) := ⟨fun e => by have := blk_lt BK_b.out; omega⟩; have NE_g_r : Aside0 (g ≠ r) := ⟨fun e => by have := OB_d.out.lts; omega⟩; have NE_m_r : Aside0 (m ≠ r) := ⟨fun e => by have := OB_d.out.lts; omega⟩; have NE_r_a : Aside0 (r ≠ a) := ⟨fun e => NE_a_r.out e.symm⟩; have NE_r_b : Aside0 (r ≠ b) := ⟨fun e => NE_b_r.out e.symm⟩; have NE_r_g : Aside0 (r ≠ g) := ⟨fun e => NE_g_r.out e.symm⟩; have NE_r_m : Aside0 (r ≠ m) := ⟨fun e => NE_m_r.out e.symm⟩; have BKn_a : Aside0 (w11.heap[a]? = some (.cells ((fill i i x).map (Value.int .u8)).toArray 5 (0, 0))) := ⟨Ext.blk (Ext.none_ HBc) BK_a.out (fun e => e)⟩; have BKn_b : Aside0 (w11.heap[b]? = some (.cells ((fill i i y).map (Value.int .u8)).toArray 5 (0, 0))) := ⟨Ext.blk (Ext.none_ HBc) BK_b.out (fun e => e)⟩; have MBn : Aside0 (∀ k, Ms [b, a, g, m] k → k < w11.heap.size) := ⟨Ms.lt _ MB.out HBc.size⟩; have OBn_d : Aside0 (IsDisk (Ms [b, a, g, m]) w11 g m (⟨sec, i, fin i k x y keep, false, 0, keep, 0 + 1 + 1 + 1⟩ : DS)) := ⟨OB_d.out.step (Ext.none_ HBc) (fun _ e => False.elim e) (fun e => e) (fun e => e)⟩; have XTn : Aside0 (Ext (fun _ => False) w w11) := ⟨XT.out.stepB HBc⟩; clear BK_a BK_b MB OB_d XT; have BK_a := BKn_a; have BK_b := BKn_b; have MB := MBn; have OB_d := OBn_d; have XT := XTn; clear BKn_a BKn_b MBn OBn_d XTn; have BK_r : Aside0 (w11.heap[r]? = some (.cells ((ct).map (Value.int .u8)).toArray 5 (0, 0))) := ⟨hrow⟩; clear hrow HBc hr))
          obtain ⟨wo, hwo⟩ : ∃ wo : World, wo = w11 := ⟨_, rfl⟩; subst hwo
          go_loop [27, 28] (fun v _ => ∃ q : Nat, q ≤ i ∧ v = .int .i64 q) (fun v _ => i - (intOf v).toNat)
          case atStart => exact ⟨0, by omega, rfl⟩
          case round =>
            obtain ⟨q, hq, rfl⟩ := hrel
            by_cases hlq : q < i
            · have x1 : decide (q < i) = true := decide_eq_true hlq; have x2 : decide ((q : Int) < (i : Int)) = true := decide_eq_true (by omega)
              have hce := row_cell BK_r.out (i := q) (by rw [HCL.out]; exact hlq)
              have hv := fin_at i k x y keep j hlq; rw [HCT.out] at hv; rw [hv] at hce; unfold wants at hce; clear hv
              by_cases y1 : (j : Int) = k
              · have y1b : ((j : Int) == k) = true := beq_iff_eq.2 y1; rw [if_pos y1] at hce; have Y1 := Aside0.mk y1; clear y1
                by_cases y2 : (q : Int) < keep
                · have y2b : decide ((q : Int) < keep) = true := decide_eq_true y2; rw [if_pos y2] at hce; clear y2
                  go_wp2
                  go_round
                  case rel => exact ⟨q + 1, by omega, by go_num⟩
                  case measure => simp [intOf]; omega
                · have y2b : decide ((q : Int) < keep) = false := decide_eq_false y2; rw [if_neg y2] at hce; clear y2
                  go_wp2
                  go_round
                  case rel => exact ⟨q + 1, by omega, by go_num⟩
                  case measure => simp [intOf]; omega
              · have y1b : ((j : Int) == k) = false := beq_eq_false_iff_ne.2 y1; rw [if_neg y1] at hce; clear y1
                go_wp2
                go_round
                case rel => exact ⟨q + 1, by omega, by go_num⟩
                case measure => simp [intOf]; omega
            · obtain rfl : q = i := by omega
              have x1 : decide (q < q) = false := decide_eq_false (by omega)
              go_wp2
              go_roundw
              case rel => exact ⟨j + 1, by omega, by go_num, BK_a, BK_b, OB_d, MB, XT⟩
              case measure => simp [intOf]; omega
        · obtain rfl : sec = j := by omega
          have v1 : decide (sec < sec) = false := decide_eq_false (by omega)
          clear hlt hj
          go_wp2_with (first | (go_at_call 16; refine (awake_c _).mono ?_; rintro e w12 ⟨rfl, HBc⟩; have BKn_a : Aside0 (w12.heap[a]? = some (.cells ((fill i i x).map (Value.int .u8)).toArray 5 (0, 0))) := ⟨Ext.blk (Ext.none_ HBc) BK_a.out (fun e => e)⟩; have BKn_b : Aside0 (w12.heap[b]? = some (.cells ((fill i i y).map (Value.int .u8)).toArray 5 (0, 0))) := ⟨Ext.blk (Ext.none_ HBc) BK_b.out (fun e => e)⟩; have MBn : Aside0 (∀ k, Ms [b, a, g, m] k → k < w12.heap.size) := ⟨Ms.lt _ MB.out HBc.size⟩; have OBn_d : Aside0 (IsDisk (Ms [b, a, g, m]) w12 g m (⟨sec, i, fin i k x y keep, false, 0, keep, 0 + 1 + 1 + 1⟩ : DS)) := ⟨OB_d.out.step (Ext.none_ HBc) (fun _ e => False.elim e) (fun e => e) (fun e => e)⟩; have XTn : Aside0 (Ext (fun _ => False) w w12) := ⟨XT.out.stepB HBc⟩; clear BK_a BK_b MB OB_d XT; have BK_a := BKn_a; have BK_b := BKn_b; have MB := MBn; have OB_d := OBn_d; have XT := XTn; clear BKn_a BKn_b MBn OBn_d XTn; clear HBc) | (go_at_call 11; refine (write_v OB_d.out k MB.out (some ⟨b, 0, none⟩) i (fill i i y) (fill_len (Nat.le_refl i) (x := y)) (Nat.le_of_eq (fill_len (Nat.le_refl i) (x := y))) (rowV BK_b.out (fill_len (Nat.le_refl i) (x := y)) (by have := SZ.out; omega) NE_b_g.out NE_b_m.out) (by show (0 + 1 + 1 + 1 : Int) ≤ _; decide) (by show (0 : Int) ≤ _; decide) e5.out).mono ?_; rintro e w13 ⟨rfl, hD, HEc⟩; have BKn_a : Aside0 (w13.heap[a]? = some (.cells ((fill i i x).map (Value.int .u8)).toArray 5 (0, 0))) := ⟨Ext.blk HEc BK_a.out (fun e => e.elim NE_a_g.out NE_a_m.out)⟩; have BKn_b : Aside0 (w13.heap[b]? = some (.cells ((fill i i y).map (Value.int .u8)).toArray 5 (0, 0))) := ⟨Ext.blk HEc BK_b.out (fun e => e.elim NE_b_g.out NE_b_m.out)⟩; have MBn : Aside0 (∀ k, Ms [b, a, g, m] k → k < w13.heap.size) := ⟨Ms.lt _ MB.out HEc.size⟩; have XTn : Aside0 (Ext (fun _ => False) w w13) := ⟨XT.out.step HEc (fun k e => Or.elim e (F_g.out k) (F_m.out k))⟩; clear BK_a BK_b MB XT; have BK_a := BKn_a; have BK_b := BKn_b; have MB := MBn; have XT := XTn; clear BKn_a BKn_b MBn XTn; clear OB_d; have OB_d : Aside0 (IsDisk (Ms [b, a, g, m]) w13 g m ((⟨sec, i, fin i k x y keep, false, 0, keep, 0 + 1 + 1 + 1⟩ : DS).write k (fill i i y)).1) := ⟨hD⟩; clear hD HEc))
          go_ret
          exact ⟨rfl, XT.out.below (fun _ e => e.elim)⟩
set_option maxHeartbeats 4000000 in
set_option maxRecDepth 100000 in
theorem keeps_walk (a : Int) (b : Int) (k : Int) (x : Int) (y : Int) (keep : Int) (w : World) : Calls Try.prog 3 #[.int .i64 a, .int .i64 b, .int .i64 k, .int .u8 x, .int .u8 y, .int .i64 keep] w fun e w' => e = .returned (.bool true) ∧ Below w.heap.size w w' := by
  by_cases hm : ¬ May a b
  · go_enter Try.func3, Try.ntmps3
    go_wp2_with (go_at_call 9; refine (may_no _ _ _ hm).mono ?_; rintro e w' ⟨rfl, rfl⟩)
    go_ret
    exact ⟨rfl, Below.refl _ _⟩
  replace hm : May a b := Classical.byContradiction hm
  by_cases c1 : 30 < a
  · have t1 : decide (30 < a) = true := decide_eq_true (by omega)
    have HM := Aside0.mk hm; clear hm c1
    go_enter Try.func3, Try.ntmps3
    go_wp2_with (go_at_call 9; refine (may_yes _ _ _ HM.out).mono ?_; rintro e w' ⟨rfl, rfl⟩)
    go_ret
    exact ⟨rfl, Below.refl _ _⟩
  have t1 : decide (30 < a) = false := decide_eq_false (by omega)
  by_cases c2 : 100 < b
  · have t2 : decide (100 < b) = true := decide_eq_true (by omega)
    have HM := Aside0.mk hm; clear hm c2
    go_enter Try.func3, Try.ntmps3
    go_wp2_with (go_at_call 9; refine (may_yes _ _ _ HM.out).mono ?_; rintro e w' ⟨rfl, rfl⟩)
    go_ret
    exact ⟨rfl, Below.refl _ _⟩
  have t2 : decide (100 < b) = false := decide_eq_false (by omega)
  by_cases c3 : k < 0
  · have t3 : decide (k < 0) = true := decide_eq_true (by omega)
    have HM := Aside0.mk hm; clear hm c3
    go_enter Try.func3, Try.ntmps3
    go_wp2_with (go_at_call 9; refine (may_yes _ _ _ HM.out).mono ?_; rintro e w' ⟨rfl, rfl⟩)
    go_ret
    exact ⟨rfl, Below.refl _ _⟩
  have t3 : decide (k < 0) = false := decide_eq_false (by omega)
  by_cases c4 : a ≤ k
  · have t4 : decide (a ≤ k) = true := decide_eq_true (by omega)
    have HM := Aside0.mk hm; clear hm c4
    go_enter Try.func3, Try.ntmps3
    go_wp2_with (go_at_call 9; refine (may_yes _ _ _ HM.out).mono ?_; rintro e w' ⟨rfl, rfl⟩)
    go_ret
    exact ⟨rfl, Below.refl _ _⟩
  have t4 : decide (a ≤ k) = false := decide_eq_false (by omega)
  clear t1 t2 t3 t4
  have hm' := hm; obtain ⟨m1, m2, m3, m4⟩ := hm'
  obtain ⟨sec, rfl⟩ := Int.eq_ofNat_of_zero_le (show 0 ≤ a by omega); obtain ⟨byt, rfl⟩ := Int.eq_ofNat_of_zero_le (show 0 ≤ b by omega)
  exact keeps_main sec byt k x y keep w hm (by omega) (by omega) (by omega) (by omega) (by omega) (by omega)
theorem keeps_row (a b k x y keep : Int) (w : World) (_ : -9223372036854775808 ≤ a ∧ a ≤ 9223372036854775807) (_ : -9223372036854775808 ≤ b ∧ b ≤ 9223372036854775807) (_ : -9223372036854775808 ≤ k ∧ k ≤ 9223372036854775807) (_ : 0 ≤ x ∧ x < 256) (_ : 0 ≤ y ∧ y < 256) (_ : -9223372036854775808 ≤ keep ∧ keep ≤ 9223372036854775807) : Calls Try.prog 3 #[.int .i64 a, .int .i64 b, .int .i64 k, .int .u8 x, .int .u8 y, .int .i64 keep] w fun e w' => e = .returned (.bool true) ∧ Below w.heap.size w w' := keeps_walk a b k x y keep w
end Go.Proofs.Ytfkhffffokkheaa.DskD

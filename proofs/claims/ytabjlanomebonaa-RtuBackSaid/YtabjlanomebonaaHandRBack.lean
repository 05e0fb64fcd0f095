/- The walk of RtuBack. (printed by gen_back.py) -/
import Derived.Test.YtabjlanomebonaaAwakeA
import Derived.Test.YtabjlanomebonaaPBx7
import Derived.Test.YtabjlanomebonaaMath
namespace Go.Proofs.Ytabjlanomebonaa.HandRBack
open Go.RowKit Go.Proofs.YtabjlanomebonaaW.PrintWords Go.Proofs.YtabjlanomebonaaW.PrintLast Go.Proofs.YtabjlanomebonaaW.PrintMore Go.Proofs.Ytabjlanomebonaa.Core Go.Proofs.Ytabjlanomebonaa.Ext Go.Proofs.Ytabjlanomebonaa.ExtC Go.Proofs.Ytabjlanomebonaa.PB Go.Proofs.Ytabjlanomebonaa.Math Go.Proofs.Ytabjlanomebonaa.AwakeA
set_option linter.unusedVariables false
set_option linter.unusedSimpArgs false
theorem bind_of {α β : Type} {x : Option α} {a : α} {f : α → Option β} {r : Option β} (h1 : x = some a) (h2 : f a = r) : x.bind f = r := by rw [h1]; exact h2
/-- The sum's step is one to one in the state, and in the byte. -/
theorem step_one {s t x y : Nat} (hs : s < 65536) (ht : t < 65536) (hx : x < 256) (hy : y < 256) (h : crcStep s x = crcStep t y) : s ^^^ x = t ^^^ y := by
  unfold crcStep at h
  have h1 : s ^^^ x < 65536 := Nat.xor_lt_two_pow (n := 16) (by omega) (by omega)
  have h2 : t ^^^ y < 65536 := Nat.xor_lt_two_pow (n := 16) (by omega) (by omega)
  have h3 : citer 8 ((s ^^^ x) ^^^ (t ^^^ y)) = 0 := by rw [citer_xor, h, Nat.xor_self]
  exact xor_zero_eq _ _ (citer_inj 8 _ (Nat.xor_lt_two_pow (n := 16) (by omega) (by omega)) h3)
theorem crcN_one : ∀ (m : List Int) (s t : Nat), s < 65536 → t < 65536 → Bytes m → crcN s m = crcN t m → s = t
  | [], s, t, _, _, _, h => h
  | x :: m, s, t, hs, ht, hb, h => by
    have hx := hb x (by simp)
    have h1 := crcN_one m (crcStep s x.toNat) (crcStep t x.toNat) (crcStep_lt s _ hs (by omega)) (crcStep_lt t _ ht (by omega)) (fun y hy => hb y (by simp [hy])) h
    have h2 := step_one hs ht (by omega) (by omega) h1
    have h3 : s ^^^ x.toNat ^^^ x.toNat = t ^^^ x.toNat ^^^ x.toNat := by rw [h2]
    simpa [Nat.xor_assoc] using h3
/-- One byte turned is seen. -/
theorem set_seen (l : List Int) (i : Nat) (v : Int) (hb : Bytes l) (hi : i < l.length) (hv : 0 ≤ v ∧ v < 256) (hne : v ≠ l[i]) (h0 : crcN 65535 l = 0) : crcN 65535 (l.set i v) ≠ 0 := by
  intro h1
  have e : l = l.take i ++ l[i] :: l.drop (i + 1) := by rw [List.getElem_cons_drop, List.take_append_drop]
  have e2 : l.set i v = l.take i ++ v :: l.drop (i + 1) := List.set_eq_take_append_cons_drop.trans (by rw [if_pos hi])
  have hli := hb l[i] (List.getElem_mem hi)
  have hs := crcN_lt (l.take i) 65535 (by omega) (fun x hx => hb x (List.mem_of_mem_take hx))
  rw [e2, crcN_append] at h1
  rw [e, crcN_append] at h0
  have h2 : crcN (crcStep (crcN 65535 (l.take i)) v.toNat) (l.drop (i + 1)) = crcN (crcStep (crcN 65535 (l.take i)) l[i].toNat) (l.drop (i + 1)) := h1.trans h0.symm
  have h3 := crcN_one _ _ _ (crcStep_lt _ _ hs (by omega)) (crcStep_lt _ _ hs (by omega)) (fun x hx => hb x (List.mem_of_mem_drop hx)) h2
  have h4 := step_one hs hs (by omega) (by omega) h3
  have h5 : crcN 65535 (l.take i) ^^^ (crcN 65535 (l.take i) ^^^ v.toNat) = crcN 65535 (l.take i) ^^^ (crcN 65535 (l.take i) ^^^ l[i].toNat) := by rw [h4]
  rw [← Nat.xor_assoc, ← Nat.xor_assoc, Nat.xor_self, Nat.zero_xor, Nat.zero_xor] at h5
  omega
theorem split_bad {l : List Int} (hb : Bytes l) (h4 : 4 ≤ l.length) (h256 : l.length ≤ 256) (h : crcN 65535 l ≠ 0) : rtu_Split.f l = some (0, [], 20) := by
  unfold rtu_Split.f
  refine (if_neg (by omega)).trans ((if_neg (by omega)).trans ?_)
  refine bind_of (whole_no hb (by omega) (fun a => h a.2)) ?_
  exact if_neg (show ¬ (20 : Int) = 0 by omega)

theorem set_view {W : World} {base g cap i : Nat} {f : List Int} {v : Int} (h : W.ownsRow base 5 1 (.slice (some ⟨g, 0, none⟩) f.length cap) f.length (nums .u8 f)) : Kd.C (Kd.int .u8) (W.setCell ⟨g, i, none⟩ (.int .u8 v)) (some ⟨g, 0, none⟩) (f.set i v).length (f.set i v) ∧ (f.set i v).length ≤ cap := by
  have h1 := (own_store h (i : Int) v).1
  rw [Int.toNat_natCast] at h1
  have h2 : (W.setCell ⟨g, i, none⟩ (.int .u8 v)).ownsRow base 5 1 (.slice (some ⟨g, 0, none⟩) f.length cap) (f.set i v).length (nums .u8 (f.set i v)) := by rw [List.length_set]; exact h1
  obtain ⟨A, c, e, hc, hC⟩ := Kd.R_reads (Kd.R_of_own (ok := fun _ => True) h2 (fun _ _ => trivial))
  injection e with e1 e2 e3
  subst e1 e3
  exact ⟨hC, hc⟩
/-- Split of a frame one byte of which was turned. -/
theorem split_set {W : World} {base g cap i : Nat} {f : List Int} {v : Int} (h : W.ownsRow base 5 1 (.slice (some ⟨g, 0, none⟩) f.length cap) f.length (nums .u8 f)) (hb : Bytes f) (h4 : 4 ≤ f.length) (h256 : f.length ≤ 256) (hz : crcN 65535 f = 0) (hi : i < f.length) (hv : 0 ≤ v ∧ v < 256) (hne : v ≠ rd f (i : Int)) :
    Calls Try.prog 30 #[.slice (some ⟨g, 0, none⟩) f.length cap] (W.setCell ⟨g, i, none⟩ (.int .u8 v)) fun e w' => (∃ v' : Value, e = .returned (.tuple #[.int .i64 0, v', .int .i64 20])) ∧ Below (W.setCell ⟨g, i, none⟩ (.int .u8 v)).heap.size (W.setCell ⟨g, i, none⟩ (.int .u8 v)) w' := by
  have hs := set_view (i := i) (v := v) h
  have hbs : Bytes (f.set i v) := fun x hx => by
    rcases List.mem_or_eq_of_mem_set hx with a | a
    · exact hb x a
    · subst a; exact hv
  have hc := rtu_Split.calls (some ⟨g, 0, none⟩) cap (f.set i v) 0 [] 20 (W.setCell ⟨g, i, none⟩ (.int .u8 v)) hs.1 hs.2 (split_bad hbs (by rw [List.length_set]; exact h4) (by rw [List.length_set]; exact h256) (set_seen f i v hb hi hv (by rw [rd_nat i hi] at hne; exact hne) hz))
  rw [List.length_set] at hc
  exact hc.mono (fun e w' ⟨v', he, _, hbl⟩ => ⟨⟨v', he⟩, hbl⟩)
theorem pow_bd {k : Nat} (h : k < 8) : 1 ≤ 2 ^ k ∧ 2 ^ k ≤ 128 := ⟨Nat.one_le_two_pow, Nat.pow_le_pow_right (by omega) (by omega : k ≤ 7)⟩
set_option maxHeartbeats 8000000 in
set_option maxRecDepth 100000 in
theorem back_long (a0 : Int) (A : Option Addr) (c : Nat) (l : List Int) (n2 : Int) (w : World) (HV : Aside0 (Kd.C (Kd.int .u8) w A l.length l)) (HC : Aside0 (l.length ≤ c)) (h6 : 600 < l.length) : Calls Try.prog 12 #[.int .i64 a0, .slice A l.length c, .int .i64 n2] w fun e w' => e = .returned (.bool true) ∧ Below w.heap.size w w' := by
  have g1 : decide (600 < (l.length : Int)) = true := decide_eq_true (by omega)
  have g1n : decide (600 < l.length) = true := decide_eq_true h6
  go_enter Try.func12, Try.ntmps12
  go_wp2
  go_ret
  exact ⟨rfl, Below.refl _ _⟩
set_option maxHeartbeats 8000000 in
set_option maxRecDepth 100000 in
theorem back_no (a0 : Int) (A : Option Addr) (c : Nat) (l : List Int) (n2 : Int) (w : World) (HV : Aside0 (Kd.C (Kd.int .u8) w A l.length l)) (HC : Aside0 (l.length ≤ c)) (h6 : l.length ≤ 600) (F1 : Aside0 (rtu_Frame.f a0 l = some ([], 1))) : Calls Try.prog 12 #[.int .i64 a0, .slice A l.length c, .int .i64 n2] w fun e w' => e = .returned (.bool true) ∧ Below w.heap.size w w' := by
  have g1 : decide (600 < (l.length : Int)) = false := decide_eq_false (by omega)
  have g1n : decide (600 < l.length) = false := decide_eq_false (by omega)
  go_enter Try.func12, Try.ntmps12
  go_wp2_with (first | (go_at_call 29; (refine (rtu_Frame.calls a0 A c l [] 1 _ HV.out HC.out F1.out).mono ?_; rintro e w1 ⟨v1, rfl, HR1, HB1⟩; obtain ⟨A1, c1, rfl, hc1, HC1⟩ := Kd.R_reads HR1; have HV1 := Aside0.mk HC1; have HC1 := Aside0.mk hc1; have HB1 := Aside0.mk HB1; clear HR1 hc1; skip)) | (go_at_call 16; (refine (awake5 _).mono ?_; rintro e wa ⟨rfl, HBa⟩; have HBw := Aside0.mk (below_step HB1.out HBa); clear HBa)))
  go_ret
  exact ⟨rfl, HBw.out⟩
set_option maxHeartbeats 8000000 in
set_option maxRecDepth 100000 in
theorem back_out (a0 : Int) (A : Option Addr) (c : Nat) (l : List Int) (n2 : Int) (w : World) (HV : Aside0 (Kd.C (Kd.int .u8) w A l.length l)) (HC : Aside0 (l.length ≤ c)) (h6 : l.length ≤ 600) (f : List Int) (F1 : Aside0 (rtu_Frame.f a0 l = some (f, 0))) (F2 : Aside0 (rtu_Split.f f = some (a0, l, 0))) (hfl : Aside0 (f.length = l.length + 3)) (hn : n2 < 0 ∨ 8 * (f.length : Int) ≤ n2) : Calls Try.prog 12 #[.int .i64 a0, .slice A l.length c, .int .i64 n2] w fun e w' => e = .returned (.bool true) ∧ Below w.heap.size w w' := by
  have g1 : decide (600 < (l.length : Int)) = false := decide_eq_false (by omega)
  have g1n : decide (600 < l.length) = false := decide_eq_false (by omega)
  have hfb : f.length ≤ 700 := by have := hfl.out; omega
  have hq : ((strOfNums l).toList == (strOfNums l).toList) = true := by simp
  have ha0 : (a0 != a0) = false := by simp
  have hfe : (((f.length : Int)) != (l.length : Int) + 3) = false := by rw [bne_eq_false_iff_eq]; have := hfl.out; omega
  by_cases h0 : n2 < 0
  · have h0b : decide (n2 < 0) = true := decide_eq_true h0
    have tok1 := Aside0.mk trivial
    go_enter Try.func12, Try.ntmps12
    go_wp2_with (first | (go_at_call 29; (refine (rtu_Frame.calls a0 A c l f 0 _ HV.out HC.out F1.out).mono ?_; rintro e w1 ⟨v1, rfl, HR1, HB1⟩; obtain ⟨A1, c1, rfl, hc1, HC1⟩ := Kd.R_reads HR1; have HV1 := Aside0.mk HC1; have HC1 := Aside0.mk hc1; have HB1 := Aside0.mk HB1; clear HR1 hc1; skip)) | (go_at_call 30; have _t := tok1; (refine (rtu_Split.calls A1 c1 f a0 l 0 _ HV1.out HC1.out F2.out).mono ?_; rintro e w2 ⟨v, rfl, HR, HBc⟩; obtain ⟨A2, c2, rfl, hcx, HCx⟩ := Kd.Q_reads HR; have hcvl : Sem.run Try.prog (convert 22 9 (.slice A2 l.length c2)) w2 = .ok (.string (strOfNums l)) w2 := string_of_reads (P := Try.prog) (c := c2) Try.underlying22 Try.underlying5 Try.underlying9 (Kd.reads_of_C HCx); have hcvo : Sem.run Try.prog (convert 22 9 (.slice A l.length c)) w2 = .ok (.string (strOfNums l)) w2 := string_of_reads (P := Try.prog) (c := c) Try.underlying22 Try.underlying5 Try.underlying9 (Kd.reads_of_C (Kd.C_below HV.out (below_step HB1.out HBc))); have HB2 := Aside0.mk (below_step HB1.out HBc); have HV12 := Aside0.mk (Kd.C_below HV1.out HBc); clear HBc HCx; clear HR hcx; clear tok1 _t; have tok2 := Aside0.mk trivial)) | (go_at_call 16; (refine (awake5 _).mono ?_; rintro e wa ⟨rfl, HBa⟩; have HBw := Aside0.mk (below_step HB2.out HBa); clear HBa)))
    go_ret
    exact ⟨rfl, HBw.out⟩
  · have h0b : decide (n2 < 0) = false := decide_eq_false h0
    have h1b : decide (8 * (f.length : Int) ≤ n2) = true := decide_eq_true (by omega)
    clear hn h0
    have tok1 := Aside0.mk trivial
    go_enter Try.func12, Try.ntmps12
    go_wp2_with (first | (go_at_call 29; (refine (rtu_Frame.calls a0 A c l f 0 _ HV.out HC.out F1.out).mono ?_; rintro e w1 ⟨v1, rfl, HR1, HB1⟩; obtain ⟨A1, c1, rfl, hc1, HC1⟩ := Kd.R_reads HR1; have HV1 := Aside0.mk HC1; have HC1 := Aside0.mk hc1; have HB1 := Aside0.mk HB1; clear HR1 hc1; skip)) | (go_at_call 30; have _t := tok1; (refine (rtu_Split.calls A1 c1 f a0 l 0 _ HV1.out HC1.out F2.out).mono ?_; rintro e w2 ⟨v, rfl, HR, HBc⟩; obtain ⟨A2, c2, rfl, hcx, HCx⟩ := Kd.Q_reads HR; have hcvl : Sem.run Try.prog (convert 22 9 (.slice A2 l.length c2)) w2 = .ok (.string (strOfNums l)) w2 := string_of_reads (P := Try.prog) (c := c2) Try.underlying22 Try.underlying5 Try.underlying9 (Kd.reads_of_C HCx); have hcvo : Sem.run Try.prog (convert 22 9 (.slice A l.length c)) w2 = .ok (.string (strOfNums l)) w2 := string_of_reads (P := Try.prog) (c := c) Try.underlying22 Try.underlying5 Try.underlying9 (Kd.reads_of_C (Kd.C_below HV.out (below_step HB1.out HBc))); have HB2 := Aside0.mk (below_step HB1.out HBc); have HV12 := Aside0.mk (Kd.C_below HV1.out HBc); clear HBc HCx; clear HR hcx; clear tok1 _t; have tok2 := Aside0.mk trivial)) | (go_at_call 16; (refine (awake5 _).mono ?_; rintro e wa ⟨rfl, HBa⟩; have HBw := Aside0.mk (below_step HB2.out HBa); clear HBa)))
    go_ret
    exact ⟨rfl, HBw.out⟩
set_option maxHeartbeats 8000000 in
set_option maxRecDepth 100000 in
theorem back_turn (a0 : Int) (A : Option Addr) (c : Nat) (l : List Int) (n2 : Int) (w : World) (HV : Aside0 (Kd.C (Kd.int .u8) w A l.length l)) (HC : Aside0 (l.length ≤ c)) (h6 : l.length ≤ 600) (f : List Int) (F1 : Aside0 (rtu_Frame.f a0 l = some (f, 0))) (F2 : Aside0 (rtu_Split.f f = some (a0, l, 0))) (hfl : Aside0 (f.length = l.length + 3)) (i j : Nat) (hi : i < f.length) (hj : j < 8) (hn : n2 = 8 * (i : Int) + (j : Int)) (HFB : Aside0 (Bytes f)) (h4 : 4 ≤ f.length) (h256 : f.length ≤ 256) (HZ : Aside0 (crcN 65535 f = 0)) : Calls Try.prog 12 #[.int .i64 a0, .slice A l.length c, .int .i64 n2] w fun e w' => e = .returned (.bool true) ∧ Below w.heap.size w w' := by
  have g1 : decide (600 < (l.length : Int)) = false := decide_eq_false (by omega)
  have g1n : decide (600 < l.length) = false := decide_eq_false (by omega)
  have hfb : f.length ≤ 700 := by have := hfl.out; omega
  have hq : ((strOfNums l).toList == (strOfNums l).toList) = true := by simp
  have ha0 : (a0 != a0) = false := by simp
  have hfe : (((f.length : Int)) != (l.length : Int) + 3) = false := by rw [bne_eq_false_iff_eq]; have := hfl.out; omega
  have h0b : decide (n2 < 0) = false := decide_eq_false (by omega)
  have h1b : decide (8 * (f.length : Int) ≤ n2) = false := decide_eq_false (by omega)
  have hn0 : 0 ≤ n2 := by omega
  have hn1 : n2 ≤ 100000 := by omega
  have hdv : n2 / 8 = (i : Int) := by omega
  have hmd : n2 % 8 = (j : Int) := by omega
  have HFL := hfl; clear hn hfl
  have tok1 := Aside0.mk trivial
  go_enter Try.func12, Try.ntmps12
  go_wp2_with (first | (go_at_call 29; (refine (rtu_Frame.calls a0 A c l f 0 _ HV.out HC.out F1.out).mono ?_; rintro e w1 ⟨v1, rfl, HR1, HB1⟩; obtain ⟨A1, c1, rfl, hc1, HC1⟩ := Kd.R_reads HR1; have HV1 := Aside0.mk HC1; have HC1 := Aside0.mk hc1; have HB1 := Aside0.mk HB1; clear HR1 hc1; skip)) | (go_at_call 30; have _t := tok1; (refine (rtu_Split.calls A1 c1 f a0 l 0 _ HV1.out HC1.out F2.out).mono ?_; rintro e w2 ⟨v, rfl, HR, HBc⟩; obtain ⟨A2, c2, rfl, hcx, HCx⟩ := Kd.Q_reads HR; have hcvl : Sem.run Try.prog (convert 22 9 (.slice A2 l.length c2)) w2 = .ok (.string (strOfNums l)) w2 := string_of_reads (P := Try.prog) (c := c2) Try.underlying22 Try.underlying5 Try.underlying9 (Kd.reads_of_C HCx); have hcvo : Sem.run Try.prog (convert 22 9 (.slice A l.length c)) w2 = .ok (.string (strOfNums l)) w2 := string_of_reads (P := Try.prog) (c := c) Try.underlying22 Try.underlying5 Try.underlying9 (Kd.reads_of_C (Kd.C_below HV.out (below_step HB1.out HBc))); have HB2 := Aside0.mk (below_step HB1.out HBc); have HV12 := Aside0.mk (Kd.C_below HV1.out HBc); clear HBc HCx; clear HR hcx; clear tok1 _t; have tok2 := Aside0.mk trivial)) | ((with_reducible refine gate_builtin (b := .append) (xs := #[.tmp 73, .tmp 74]) rfl ?_); (refine print_append_row (w0 := w2) w2.heap.size rfl (.tmp 73) (.tmp 74) 22 5 .u8 1 rfl Try.underlying22 PZ.info5 (by omega) (.slice (some ⟨w2.heap.size, 0, none⟩) 0 0) [] f A1 f.length c1 rfl rfl ?d1 ?d2 ?d3 ?d4 ?d5 ?_; (case d1 => exact own_lit w2 w2.heap.size 5 .u8 [] (Nat.le_refl _) (by simp)); (case d2 => exact ReadsInt.below (Kd.reads_of_C HV12.out) (below_alloc (Below.refl _ _) _)); (case d3 => exact (below_alloc (Below.refl _ _) _)); (case d4 => simp); (case d5 => simp; omega); intro v3 w3 hown hbel hgrow hat; rw [List.nil_append] at hown; obtain ⟨g3, c3, rfl, hg3, _⟩ := hown.form (by omega); have HO3 := Aside0.mk hown; have HB3 : Aside0 (Below w.heap.size w w3) := ⟨below_step HB2.out hbel⟩; clear hown hbel hgrow hat)))
  go_loop [13, 14] (fun v13 v14 => ∃ k : Nat, k ≤ j ∧ v14 = .int .i64 k ∧ v13 = .int .u8 ((2 ^ k : Nat) : Int)) (fun _ v14 => j - (intOf v14).toNat)
  case atStart => exact ⟨0, Nat.zero_le _, rfl, rfl⟩
  case round =>
    obtain ⟨k, hk, rfl, rfl⟩ := hrel
    by_cases hlt : k < j
    · have hltb : decide ((k : Int) < (j : Int)) = true := decide_eq_true (by omega)
      have hltn : decide (k < j) = true := decide_eq_true hlt
      have hp := pow_bd (k := k + 1) (by omega)
      have hp2 : 2 ^ (k + 1) = 2 * 2 ^ k := by rw [Nat.pow_succ]; omega
      have HP := Aside0.mk (And.intro hp hp2); clear hp hp2
      generalize hP : 2 ^ k = pw at HP ⊢; clear hP
      go_wp2
      go_round
      case rel => exact ⟨k + 1, by omega, by go_num, by rw [HP.out.2]; have := HP.out; congr 1; omega⟩
      case measure => simp [intOf]; omega
    · obtain rfl : k = j := by omega
      have hltb : decide ((k : Int) < (k : Int)) = false := decide_eq_false (by omega)
      have hltn : decide (k < k) = false := decide_eq_false (by omega)
      have hp := pow_bd hj
      generalize 2 ^ k = pw at hp ⊢
      obtain ⟨hp1, hp2⟩ := hp
      obtain ⟨hx0, hfx⟩ := own_at HO3.out (i : Int) (by omega) (by omega)
      rw [Int.toNat_natCast] at hx0 hfx
      have hxb := bytes_rd HFB.out (i : Int)
      generalize hxx : rd f (i : Int) = x at hx0 hxb
      have HXX := Aside0.mk hxx; clear hxx
      obtain ⟨hxb0, hxb1⟩ := hxb
      have hib : decide ((i : Int) < (f.length : Int)) = true := decide_eq_true (by omega)
      have hip : (i : Int) < (f.length : Int) := by omega
      have hpz : ((pw : Int) == 0) = false := beq_eq_false_iff_ne.2 (by omega)
      go_wp2_with (first | (go_at_call 30; (refine (split_set HO3.out HFB.out h4 h256 HZ.out hi ?hv ?hne).mono ?_; (case hv => constructor <;> omega); (case hne => rw [HXX.out]; omega); rintro e w5 ⟨⟨v5, rfl⟩, HBc⟩; have HB5 : Aside0 (Below w.heap.size w w5) := ⟨below_step (below_set HB3.out (Nat.le_trans HB2.out.size hg3)) HBc⟩; clear HBc)) | (go_at_call 16; (refine (awake5 _).mono ?_; rintro e wa ⟨rfl, HBa⟩; have HBw := Aside0.mk (below_step HB5.out HBa); clear HBa)))
      all_goals go_ret
      all_goals exact ⟨rfl, HBw.out⟩
theorem frame_no {a0 : Int} {l : List Int} (h : ¬ (0 ≤ a0 ∧ a0 ≤ 247 ∧ 1 ≤ l.length ∧ l.length ≤ 253)) : rtu_Frame.f a0 l = some ([], 1) := by
  unfold rtu_Frame.f
  by_cases h1 : a0 < 0
  · exact if_pos h1
  refine (if_neg h1).trans ?_
  by_cases h2 : a0 > 247
  · exact if_pos h2
  refine (if_neg h2).trans ?_
  by_cases h3 : (l.length : Int) < 1
  · exact if_pos h3
  refine (if_neg h3).trans ?_
  exact if_pos (Classical.byContradiction fun a => h ⟨by omega, by omega, by omega, by omega⟩)
theorem frame_ok {a0 : Int} {l : List Int} (hb : Bytes l) (h : 0 ≤ a0 ∧ a0 ≤ 247 ∧ 1 ≤ l.length ∧ l.length ≤ 253) :
    ∃ f, rtu_Frame.f a0 l = some (f, 0) ∧ rtu_Split.f f = some (a0, l, 0) ∧ f.length = l.length + 3 ∧ Bytes f ∧ crcN 65535 f = 0 := by
  obtain ⟨h0, h1, h2, h3⟩ := h
  have hb1 : Bytes ([a0] ++ l) := fun x hx => by
    rcases List.mem_append.1 hx with a | a
    · have : x = a0 := by simpa using a
      omega
    · exact hb x a
  have hlt := crcN_lt ([a0] ++ l) 65535 (by omega) hb1
  have hl1 : ([a0] ++ l).length = l.length + 1 := by simp
  have hz := crcN_add ([a0] ++ l) hb1
  have hbf := bytes_add ([a0] ++ l) hb1 _ hlt
  have ha := add_f hb1 (by omega)
  generalize crcN 65535 ([a0] ++ l) = n at hz hbf ha
  have hfl : (([a0] ++ l) ++ [((n % 256 : Nat) : Int), ((n / 256 : Nat) : Int)]).length = l.length + 3 := by simp
  refine ⟨([a0] ++ l) ++ [((n % 256 : Nat) : Int), ((n / 256 : Nat) : Int)], ?_, ?_, hfl, hbf, hz⟩
  · unfold rtu_Frame.f
    refine (if_neg (by omega)).trans ((if_neg (by omega)).trans ((if_neg (by omega)).trans ((if_neg (by omega)).trans ?_)))
    refine bind_of rfl ?_
    refine (if_pos (show (1 : Nat) + l.length < 140737488355328 by omega)).trans ?_
    rw [Int.emod_eq_of_lt h0 (show a0 < 256 by omega)]
    exact bind_of ha rfl
  · unfold rtu_Split.f
    refine (if_neg (by rw [hfl]; omega)).trans ((if_neg (by rw [hfl]; omega)).trans ?_)
    have hw := whole_yes hbf (by rw [hfl]; omega) ⟨by rw [hfl]; omega, hz⟩
    have ht : (([a0] ++ l) ++ [((n % 256 : Nat) : Int), ((n / 256 : Nat) : Int)]).take ((([a0] ++ l) ++ [((n % 256 : Nat) : Int), ((n / 256 : Nat) : Int)]).length - 2) = a0 :: l := by
      rw [hfl, show l.length + 3 - 2 = ([a0] ++ l).length from by rw [hl1]; omega, List.take_left']
      · rfl
      · rfl
    rw [ht] at hw
    refine bind_of hw ?_
    refine (if_pos rfl).trans ?_
    refine (if_pos (show (0 : Int) < ((a0 :: l).length : Int) by simp only [List.length_cons]; omega)).trans ?_
    have hr : wrap64 (rd (a0 :: l) 0) = a0 := by show wrap64 a0 = a0; unfold wrap64; omega
    rw [hr]
    refine (if_neg (by omega)).trans ?_
    refine (if_pos (show (1 : Int) ≤ ((a0 :: l).length : Int) by simp only [List.length_cons]; omega)).trans ?_
    rfl
theorem back_walk (a0 : Int) (A : Option Addr) (c : Nat) (l : List Int) (n2 : Int) (w : World) (h0 : -9223372036854775808 ≤ a0 ∧ a0 ≤ 9223372036854775807) (HV : Aside0 (Kd.C (Kd.int .u8) w A l.length l)) (HC : Aside0 (l.length ≤ c)) (hb : ∀ x ∈ l, 0 ≤ x ∧ x < 256) (h2 : -9223372036854775808 ≤ n2 ∧ n2 ≤ 9223372036854775807) :
    Calls Try.prog 12 #[.int .i64 a0, .slice A l.length c, .int .i64 n2] w fun e w' => e = .returned (.bool true) ∧ Below w.heap.size w w' := by
  by_cases h6 : 600 < l.length
  · exact back_long a0 A c l n2 w HV HC h6
  by_cases hm : 0 ≤ a0 ∧ a0 ≤ 247 ∧ 1 ≤ l.length ∧ l.length ≤ 253
  · obtain ⟨f, f1, f2, f3, f4, f5⟩ := frame_ok hb hm
    by_cases hn : n2 < 0 ∨ 8 * (f.length : Int) ≤ n2
    · exact back_out a0 A c l n2 w HV HC (by omega) f ⟨f1⟩ ⟨f2⟩ ⟨f3⟩ hn
    · exact back_turn a0 A c l n2 w HV HC (by omega) f ⟨f1⟩ ⟨f2⟩ ⟨f3⟩ (n2 / 8).toNat (n2 % 8).toNat (by omega) (by omega) (by omega) ⟨f4⟩ (by omega) (by omega) ⟨f5⟩
  · exact back_no a0 A c l n2 w HV HC (by omega) ⟨frame_no hm⟩

end Go.Proofs.Ytabjlanomebonaa.HandRBack

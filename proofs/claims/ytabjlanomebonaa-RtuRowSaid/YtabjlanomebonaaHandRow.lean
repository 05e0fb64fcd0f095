/- The walk of RtuRow. (printed by gen_row.py) -/
import Derived.Test.YtabjlanomebonaaAwakeA
namespace Go.Proofs.Ytabjlanomebonaa.HandRow
open Go.RowKit Go.Proofs.YtabjlanomebonaaW.PrintWords Go.Proofs.YtabjlanomebonaaW.PrintLast Go.Proofs.YtabjlanomebonaaW.PrintMore Go.Proofs.Ytabjlanomebonaa.Core Go.Proofs.Ytabjlanomebonaa.Ext Go.Proofs.Ytabjlanomebonaa.ExtG Go.Proofs.Ytabjlanomebonaa.ExtL Go.Proofs.Ytabjlanomebonaa.ExtR Go.Proofs.Ytabjlanomebonaa.PZ Go.Proofs.Ytabjlanomebonaa.AwakeA
set_option linter.unusedVariables false
set_option linter.unusedSimpArgs false
/-- The line's block and the two rows' own. -/
def M3 (g : Nat) (v u : Value) (k : Nat) : Prop := k = g ∨ some k = v.ownBlock ∨ some k = u.ownBlock
abbrev dR := Kd.slice 5 (Kd.int .u8)
def Two (g : Nat) (W : World) (v u : Value) (ts ws : List (List Int)) : Prop := OwnE dR (M3 g v u) 22 (g + 1) W v ts ∧ OwnE dR (M3 g v u) 22 (g + 1) W u ws ∧ (∀ k, v.ownBlock = some k → u.ownBlock ≠ some k)
section
variable {g : Nat} {W w1 : World} {v u v1 : Value} {ts ws ts' : List (List Int)} {P : World → Prop}
theorem Two.ge (h : Two g W v u ts ws) (k : Nat) (hk : M3 g v u k) : g ≤ k := by
  rcases hk with a | a | a
  · omega
  · have := h.1.base_le k a.symm; omega
  · have := h.2.1.base_le k a.symm; omega
theorem Two.lt (h : Two g W v u ts ws) (hg : g < W.heap.size) (k : Nat) (hk : M3 g v u k) : k < W.heap.size := by
  rcases hk with a | a | a
  · omega
  · exact h.1.lt k a.symm
  · exact h.2.1.lt k a.symm
theorem Two.ext (h : Two g W v u ts ws) (k : Ext (fun k => k = g) W w1) : Two g w1 v u ts ws :=
  ⟨h.1.step (k.mono (fun _ _ e => .inl (.inl e))) (fun b hb => k.block b (h.1.lt b hb) (fun e => by have := h.1.base_le b hb; have e' : b = g := e; omega)),
   h.2.1.step (k.mono (fun _ _ e => .inl (.inl e))) (fun b hb => k.block b (h.2.1.lt b hb) (fun e => by have := h.2.1.base_le b hb; have e' : b = g := e; omega)), h.2.2⟩
theorem Two.below (h : Two g W v u ts ws) (k : Below W.heap.size W w1) : Two g w1 v u ts ws := h.ext (.of_below k)
theorem M3_grow1 (hat : v1.ownBlock = v.ownBlock ∨ ∃ b, v1.ownBlock = some b ∧ W.heap.size ≤ b) (k : Nat) (h : M3 g v1 u k) : M3 g v u k ∨ W.heap.size ≤ k := by
  rcases h with h | h | h
  · exact .inl (.inl h)
  · rcases hat with a | ⟨b, a, hb⟩
    · exact .inl (.inr (.inl (h.trans a)))
    · rw [a] at h; injection h with h; exact .inr (by omega)
  · exact .inl (.inr (.inr h))
theorem M3_swap (k : Nat) (h : M3 g v u k) : M3 g u v k := by
  rcases h with h | h | h
  · exact .inl h
  · exact .inr (.inr h)
  · exact .inr (.inl h)
theorem Two.swap (h : Two g W v u ts ws) : Two g W u v ws ts := ⟨h.2.1.moreM (fun k a => .inl (M3_swap k a)), h.1.moreM (fun k a => .inl (M3_swap k a)), fun k a b => h.2.2 k b a⟩
theorem Two.app1 (h : Two g W v u ts ws) (hO : OwnE dR (M3 g v u) 22 (g + 1) w1 v1 ts') (hg : W.grownBy w1 v.ownBlock) (hat : v1.ownBlock = v.ownBlock ∨ ∃ b, v1.ownBlock = some b ∧ W.heap.size ≤ b) : Two g w1 v1 u ts' ws := by
  refine ⟨hO.moreM (fun k a => ?_), ?_, fun k a b => ?_⟩
  · rcases a with a | a | a
    · exact .inl (.inl a)
    · exact .inr (.inr a)
    · exact .inl (.inr (.inr a))
  · have h2 : OwnE dR (M3 g v u) 22 (g + 1) w1 u ws := h.2.1.step ((Ext.of_grown (M := M3 g v u) hg).mono (fun k _ a => by rcases a with a | a; exact .inl a; exact .inl (.inr (.inl a)))) (fun b hb => hg.block b (h.2.1.lt b hb) (fun e => h.2.2 b e.symm hb))
    obtain ⟨i, h3, h4⟩ := h2
    obtain ⟨i', h3', h4'⟩ := h.2.1
    refine ⟨i', own_move h3' (fun b hb => hg.block b (own_lt h3' b hb) (fun e => h.2.2 b e.symm hb)), h4'.imp_ (fun _ _ a => a.grow ((Ext.of_grown (M := M3 g v u) hg).mono (fun k _ a => by rcases a with a | a; exact .inl a; exact .inl (.inr (.inl a)))) (fun k b => ?_))⟩
    rcases b with b | b
    · rcases M3_grow1 (u := u) hat k b with c | c
      · exact .inl (.inl c)
      · exact .inr c
    · exact .inl (.inr b)
  · rcases hat with c | ⟨n, c, hn⟩
    · exact h.2.2 k (c ▸ a) b
    · rw [c] at a; injection a with a; have := h.2.1.lt k b; omega
theorem Mv_M3 (k : Nat) (h : Mv (M3 g v u) v k) : M3 g v u k := by
  rcases h with h | h
  · exact h
  · exact .inr (.inl h)
theorem line_grown {M M' : Nat → Prop} {now gap last : Int} {came : List Int} (h : IsLine M W g now gap last came) (k : Ext M W w1) (hM : ∀ k, M' k → M k ∨ W.heap.size ≤ k) (hb : w1.heap[g]? = W.heap[g]?) : IsLine M' w1 g now gap last came := by
  obtain ⟨A, c, h1, h2, h3⟩ := h
  exact ⟨A, c, hb.trans h1, h2, h3.grow k hM⟩
theorem ext1 (hg : W.grownBy w1 v.ownBlock) : Ext (M3 g v u) W w1 := (Ext.of_grown (M := M3 g v u) hg).mono (fun k _ a => Mv_M3 k a)
/-- The line behind an append to the first row, to the second. -/
theorem line1 {now gap last : Int} {came : List Int} (h : IsLine (M3 g v u) W g now gap last came) (hT : Two g W v u ts ws) (hg : W.grownBy w1 v.ownBlock) (hat : v1.ownBlock = v.ownBlock ∨ ∃ b, v1.ownBlock = some b ∧ W.heap.size ≤ b) : IsLine (M3 g v1 u) w1 g now gap last came := by
  refine line_grown h (ext1 hg) (M3_grow1 hat) ?_
  have hl : g < W.heap.size := by obtain ⟨_, _, h1, _⟩ := h; exact blk_lt h1
  exact hg.block g hl (fun e => by have := hT.1.base_le g e.symm; omega)
theorem line_swap {now gap last : Int} {came : List Int} (h : IsLine (M3 g v u) W g now gap last came) : IsLine (M3 g u v) W g now gap last came := line_grown h (Ext.refl _ _) (fun k a => .inl (M3_swap k a)) rfl
end
/-- What will be told of what came. -/
def pend (came : List Int) : List (List Int) := if 0 < came.length then (if came.length ≤ 256 then [came] else []) else []
theorem pend_len (came : List Int) : (pend came).length ≤ 1 := by unfold pend; split <;> (try split) <;> simp
theorem pend_out {gap last t : Int} {came : List Int} (h : 0 < came.length → gap ≤ t - last) : lOut gap last came t = pend came := by
  unfold lOut pend lGone
  by_cases a : 0 < came.length
  · have := h a; simp [a, this]
  · simp [a]
theorem pend_came {gap last t : Int} {came b : List Int} (h : 0 < came.length → gap ≤ t - last) : lCame gap last came t b = b := by
  unfold lCame lGone
  by_cases a : 0 < came.length
  · have := h a; simp [a, this]
  · have : came = [] := List.length_eq_zero_iff.1 (by omega)
    simp [this]
theorem rd_bd {l : List Int} (h : ∀ x ∈ l, -9223372036854775808 ≤ x ∧ x ≤ 9223372036854775807) (i : Int) : -9223372036854775808 ≤ rd l i ∧ rd l i ≤ 9223372036854775807 := by
  unfold rd
  rcases Nat.lt_or_ge i.toNat l.length with a | a
  · rw [List.getD_eq_getElem?_getD, List.getElem?_eq_getElem a]; exact h _ (List.getElem_mem a)
  · rw [List.getD_eq_getElem?_getD, List.getElem?_eq_none a]; simp
set_option maxHeartbeats 20000000 in
set_option maxRecDepth 100000 in
theorem row_main (gap : Int) (A1 : Option Addr) (c1 : Nat) (rs : List (List Int)) (A2 : Option Addr) (c2 : Nat) (ml : List Int) (w : World) (HV1 : Aside0 (Kd.C dR w A1 rs.length rs)) (HC1 : Aside0 (rs.length ≤ c1)) (HV2 : Aside0 (Kd.C (Kd.int .i64) w A2 ml.length ml)) (HC2 : Aside0 (ml.length ≤ c2))
    (hg1 : 1 ≤ gap) (hg2 : gap ≤ 1000) (hr : rs.length ≤ 40) (hm64 : ∀ x ∈ ml, -9223372036854775808 ≤ x ∧ x ≤ 9223372036854775807) :
    Calls Try.prog 4 #[.int .i64 gap, .slice A1 rs.length c1, .slice A2 ml.length c2] w fun e w' => e = .returned (.bool true) ∧ Below w.heap.size w w' := by
  have hm2 := HV2.out.2.1
  have HW := Aside0.mk hm64; clear hm64
  have hgb1 : decide (gap < 1) = false := decide_eq_false (by omega)
  have hgb2 : decide (1000 < gap) = false := decide_eq_false (by omega)
  have hrb : decide (40 < (rs.length : Int)) = false := decide_eq_false (by omega)
  have hrn : decide (40 < rs.length) = false := decide_eq_false (by omega)
  go_enter Try.func4, Try.ntmps4
  go_wp2_with (go_at_call 13; (refine (line_new gap _ hg1).mono ?_; rintro e w' ⟨rfl, rfl⟩))
  have HL0 : Aside0 (IsLine (M3 w.heap.size (.slice none 0 0) (.slice none 0 0)) (w.alloc (.cells #[.int .i64 0, .int .i64 gap, .int .i64 0, .slice none 0 0] 65)) w.heap.size 0 gap 0 []) := ⟨⟨none, 0, new_blk rfl, Nat.le_refl _, Ever.nil _⟩⟩
  have HT0 : Aside0 (Two w.heap.size (w.alloc (.cells #[.int .i64 0, .int .i64 gap, .int .i64 0, .slice none 0 0] 65)) (.slice none 0 0) (.slice none 0 0) [] []) := ⟨⟨OwnE.nil _ _ _ _ _, OwnE.nil _ _ _ _ _, fun k hk => by simp [Value.ownBlock] at hk⟩⟩
  go_loopw [9, 10, 11, 12] (fun v9 v10 v11 v12 wr => ∃ (now last : Int) (i : Nat) (ts ws : List (List Int)) (came : List Int), v11 = .int .i64 now ∧ v12 = .int .i64 i ∧ i ≤ rs.length ∧ 0 ≤ last ∧ last ≤ now ∧ now ≤ 2000 * i ∧ came.length ≤ 600 ∧ Aside0 (0 < came.length → gap ≤ now - last) ∧ Aside0 (ws = ts ++ pend came) ∧ Aside0 (ts.length ≤ i ∧ ws.length ≤ i) ∧ Aside0 (Two w.heap.size wr v9 v10 ts ws) ∧ Aside0 (IsLine (M3 w.heap.size v9 v10) wr w.heap.size last gap last came) ∧ Aside0 (Below w.heap.size w wr)) (fun _ _ _ v12 _ => rs.length - (intOf v12).toNat)
  case atStart => exact ⟨0, 0, 0, [], [], [], rfl, rfl, by omega, by omega, by omega, by omega, by simp, ⟨fun h => by simp at h⟩, ⟨rfl⟩, ⟨by simp, by simp⟩, HT0, HL0, ⟨below_alloc (Below.refl _ _) _⟩⟩
  case round =>
    clear HL0 HT0
    obtain ⟨now, last, i, ts, ws, came, rfl, rfl, hi, hl0, hln, hnow, hc6, HG, HWS, HLN, HT, HL, HB⟩ := hrel
    have hgs : Aside0 (w.heap.size < wr.heap.size) := ⟨by obtain ⟨_, _, h1, _⟩ := HL.out; exact blk_lt h1⟩
    by_cases hlt : i < rs.length
    · have hltb : decide ((i : Int) < (rs.length : Int)) = true := decide_eq_true (by omega)
      have hltn : decide (i < rs.length) = true := decide_eq_true hlt
      obtain ⟨ad, A, c, rfl, hx0, hxl, hxc⟩ := at_L1 HV1.out (i : Int) (by omega) (by omega)
      rw [Int.toNat_natCast] at hx0
      have hxm := hxc.2.1
      generalize rd_L1 rs (i : Int) = x at hx0 hxl hxc hxm
      have HXL := Aside0.mk hxl; have HXC := Aside0.mk hxc; clear hxl hxc
      have hx1 : wr.cell? (ad.add i) = some (.slice A x.length c) := (HB.out.cell (World.block_lt_of_cell? w _ hx0)).trans hx0
      have HX0 := Aside0.mk hx0; clear hx0
      by_cases e0 : x.length = 0
      · have e0b : ((x.length : Int) == 0) = true := beq_iff_eq.2 (by omega)
        go_wp2
        go_ret
        exact ⟨rfl, HB.out⟩
      have e0b : ((x.length : Int) == 0) = false := beq_eq_false_iff_ne.2 (by omega)
      by_cases e6 : 600 < x.length
      · have e6b : decide (600 < (x.length : Int)) = true := decide_eq_true (by omega)
        have e6n : decide (600 < x.length) = true := decide_eq_true e6
        go_wp2
        go_ret
        exact ⟨rfl, HB.out⟩
      have e6b : decide (600 < (x.length : Int)) = false := decide_eq_false (by omega)
      have e6n : decide (600 < x.length) = false := decide_eq_false e6
      have HMO : Aside0 (∀ k, M3 w.heap.size u9 u10 k → w.heap.size ≤ k) := ⟨fun k hk => HT.out.ge k hk⟩
      have HXE : Aside0 (Ever (M3 w.heap.size u9 u10) wr (fun W => Kd.C (Kd.int .u8) W A x.length x)) := ⟨(Ever.old (M := M3 w.heap.size u9 u10) HXC.out (fun _ hb => Kd.C_below HXC.out hb) HMO.out).step (.of_below HB.out)⟩
      have F1 : Aside0 (lOut gap last came now = pend came) := ⟨pend_out HG.out⟩
      have F2 : Aside0 (lCame gap last came now x = x) := ⟨pend_came HG.out⟩
      have F3 : Aside0 (lLast last now x = now) := ⟨by unfold lLast; rw [if_pos (by omega)]⟩
      have hpl := pend_len came
      have hlen1 := HLN.out.1; have hlen2 := HLN.out.2
      generalize hpc : pend came = pc at F1 HWS hpl; clear hpc
      by_cases hiw : i < ml.length
      · have hiwb : decide ((i : Int) < (ml.length : Int)) = true := decide_eq_true (by omega)
        have hiwn : decide (i < ml.length) = true := decide_eq_true hiw
        obtain ⟨ad2, rfl, hy2⟩ := Kd.at_int HV2.out (i : Int) (by omega) (by omega)
        rw [Int.toNat_natCast] at hy2
        have hyb := rd_bd HW.out (i : Int)
        generalize rd ml (i : Int) = y at hy2 hyb
        obtain ⟨hyb0, hyb1⟩ := hyb
        have HY0 := Aside0.mk hy2; clear hy2
        by_cases hy : 0 < y
        · have hypb : decide (0 < y) = true := decide_eq_true hy
          have hyr0 := Int.emod_nonneg y (show (1000 : Int) ≠ 0 by omega)
          have hyr1 := Int.emod_lt_of_pos y (show (0 : Int) < 1000 by omega)
          by_cases e2 : x.length ≤ 256
          · have e2b : decide ((x.length : Int) ≤ 256) = true := decide_eq_true (by omega)
            have e2n : decide (x.length ≤ 256) = true := decide_eq_true e2
            have hpx : pend x = [x] := by unfold pend; rw [if_pos (by omega), if_pos e2]
            have HPX := Aside0.mk hpx; clear hpx e2
            all_goals skip
            go_wp2_with (first | (go_at_call 14; (refine (feed (M3 w.heap.size u9 u10) w.heap.size last gap last now came x A c _ (.inl rfl) (HT.out.lt hgs.out) HL.out HXE.out (by omega) (by omega) (by omega) hln hl0 hln (by omega) pc x now F1.out F2.out F3.out).mono ?_; rintro e w3 ⟨v', rfl, HR3, HL3, HX3⟩; obtain ⟨A3, c3, rfl, hc3, HR3⟩ := HR3; have hB3 : Below w.heap.size w w3 := ⟨HX3.os.trans HB.out.os, HX3.tape.trans HB.out.tape, HX3.output.trans HB.out.output, Nat.le_trans HB.out.size HX3.size, fun k hk => (HX3.block k (Nat.lt_of_lt_of_le hk HB.out.size) (fun e => by have e' : k = w.heap.size := e; omega)).trans (HB.out.block k hk)⟩; have hx3 : w3.cell? (ad.add i) = some (.slice A x.length c) := (hB3.cell (World.block_lt_of_cell? w _ HX0.out)).trans HX0.out; have HT3 := Aside0.mk (HT.out.ext HX3); have HL3 := Aside0.mk HL3; have HR3 := Aside0.mk HR3; have HXE3 := Aside0.mk (HXE.out.step (Ext.toM (.inl rfl) HX3)); have HB3 := Aside0.mk hB3; have hz3 := HX3.size; clear HX3 hB3 HT HL HXE F1 F2 F3 HB hx1)) | ((with_reducible refine gate_builtin (b := .append) (xs := #[.tmp 71, .tmp 72]) rfl ?_); (refine ev_append_rows dR (M := M3 w.heap.size u9 u10) (w0 := w3) (w.heap.size + 1) rfl (.tmp 71) (.tmp 72) 28 22 (.slice none 0 0) 24 rfl Try.underlying28 info22 rfl (by decide) (by decide) u9 ts pc A3 pc.length c3 rfl rfl HT3.out.1 (HR3.out.grow (Ext.refl _ _) (fun k a => .inl (Mv_M3 k a))).elems (Below.refl _ _) ?aS (by omega) ?_; (case aS => have := hgs.out; omega); intro v4 w4 HO4 HB4 hg4 hat4; have hB4 : Below w.heap.size w w4 := HB3.out.grown hg4 (Nat.le_trans HB3.out.size (Nat.le_refl _)) (fun k hk => by have := HT3.out.1.base_le k hk; omega); have hq4 : w4.cell? (ad2.add i) = some (.int .i64 y) := (hB4.cell (World.block_lt_of_cell? w _ HY0.out)).trans HY0.out; have hx4 : w4.cell? (ad.add i) = some (.slice A x.length c) := (hB4.cell (World.block_lt_of_cell? w _ HX0.out)).trans HX0.out; have HT4 := Aside0.mk (HT3.out.app1 HO4 hg4 hat4); have HL4 := Aside0.mk (line1 HL3.out HT3.out hg4 hat4); have HXE4 := Aside0.mk (HXE3.out.grow (ext1 hg4) (M3_grow1 hat4)); have hz4 := hg4.size; have HB4' := Aside0.mk hB4; clear HO4 HB4 hg4 hat4 hB4 HT3 HL3 HXE3 HB3 HR3 hx3)) | ((with_reducible refine gate_builtin (b := .append) (xs := #[.tmp 80, .tmp 85]) rfl ?_); at_builtin; (refine ev_append dR (M := M3 w.heap.size u10 v4) (w0 := w4) (w.heap.size + 1) rfl (.tmp 80) (.tmp 85) 28 22 (.slice none 0 0) 24 rfl Try.underlying28 info22 rfl (by decide) (by decide) u10 ws x [.slice A x.length c] rfl ?ax HT4.out.swap.1 ?ap (Below.refl _ _) ?aS (by omega) ?_; (case ax => first | rfl | (go_simp; done) | (go_simp; rfl)); (case ap => exact ⟨fun w2 h2 => ⟨A, c, rfl, HXL.out, HXE4.out.at_ _ (h2.mono (fun k _ a => M3_swap k (Mv_M3 k a)))⟩⟩); (case aS => have := hgs.out; omega); intro v5 w5 HO5 HB5 hg5 hat5; have hB5 : Below w.heap.size w w5 := HB4'.out.grown hg5 (Nat.le_trans HB4'.out.size (Nat.le_refl _)) (fun k hk => by have := HT4.out.2.1.base_le k hk; omega); have hq5 : w5.cell? (ad2.add i) = some (.int .i64 y) := (hB5.cell (World.block_lt_of_cell? w _ HY0.out)).trans HY0.out; have HT5 := Aside0.mk (HT4.out.swap.app1 HO5 hg5 hat5).swap; have HL5 := Aside0.mk (line_swap (line1 (line_swap HL4.out) HT4.out.swap hg5 hat5)); have HB5' := Aside0.mk hB5; clear HO5 HB5 hg5 hat5 hB5 HT4 HL4 HXE4 HB4')))
            go_roundw
            case rel => exact ⟨now + gap + y % 1000, now, i + 1, ts ++ pc, ws ++ [x], x, rfl, by go_num, by omega, by omega, by omega, by push_cast; omega, by omega, ⟨fun _ => by omega⟩, ⟨by rw [HWS.out, HPX.out]⟩, ⟨by simp; omega, by first | omega | (simp; omega)⟩, HT5, HL5, HB5'⟩
            case measure => simp [intOf]; omega
          · have e2b : decide ((x.length : Int) ≤ 256) = false := decide_eq_false (by omega)
            have e2n : decide (x.length ≤ 256) = false := decide_eq_false e2
            have hpx : pend x = [] := by unfold pend; rw [if_pos (by omega), if_neg e2]
            have HPX := Aside0.mk hpx; clear hpx e2
            all_goals skip
            go_wp2_with (first | (go_at_call 14; (refine (feed (M3 w.heap.size u9 u10) w.heap.size last gap last now came x A c _ (.inl rfl) (HT.out.lt hgs.out) HL.out HXE.out (by omega) (by omega) (by omega) hln hl0 hln (by omega) pc x now F1.out F2.out F3.out).mono ?_; rintro e w3 ⟨v', rfl, HR3, HL3, HX3⟩; obtain ⟨A3, c3, rfl, hc3, HR3⟩ := HR3; have hB3 : Below w.heap.size w w3 := ⟨HX3.os.trans HB.out.os, HX3.tape.trans HB.out.tape, HX3.output.trans HB.out.output, Nat.le_trans HB.out.size HX3.size, fun k hk => (HX3.block k (Nat.lt_of_lt_of_le hk HB.out.size) (fun e => by have e' : k = w.heap.size := e; omega)).trans (HB.out.block k hk)⟩; have hx3 : w3.cell? (ad.add i) = some (.slice A x.length c) := (hB3.cell (World.block_lt_of_cell? w _ HX0.out)).trans HX0.out; have HT3 := Aside0.mk (HT.out.ext HX3); have HL3 := Aside0.mk HL3; have HR3 := Aside0.mk HR3; have HXE3 := Aside0.mk (HXE.out.step (Ext.toM (.inl rfl) HX3)); have HB3 := Aside0.mk hB3; have hz3 := HX3.size; clear HX3 hB3 HT HL HXE F1 F2 F3 HB hx1)) | ((with_reducible refine gate_builtin (b := .append) (xs := #[.tmp 71, .tmp 72]) rfl ?_); (refine ev_append_rows dR (M := M3 w.heap.size u9 u10) (w0 := w3) (w.heap.size + 1) rfl (.tmp 71) (.tmp 72) 28 22 (.slice none 0 0) 24 rfl Try.underlying28 info22 rfl (by decide) (by decide) u9 ts pc A3 pc.length c3 rfl rfl HT3.out.1 (HR3.out.grow (Ext.refl _ _) (fun k a => .inl (Mv_M3 k a))).elems (Below.refl _ _) ?aS (by omega) ?_; (case aS => have := hgs.out; omega); intro v4 w4 HO4 HB4 hg4 hat4; have hB4 : Below w.heap.size w w4 := HB3.out.grown hg4 (Nat.le_trans HB3.out.size (Nat.le_refl _)) (fun k hk => by have := HT3.out.1.base_le k hk; omega); have hq4 : w4.cell? (ad2.add i) = some (.int .i64 y) := (hB4.cell (World.block_lt_of_cell? w _ HY0.out)).trans HY0.out; have hx4 : w4.cell? (ad.add i) = some (.slice A x.length c) := (hB4.cell (World.block_lt_of_cell? w _ HX0.out)).trans HX0.out; have HT4 := Aside0.mk (HT3.out.app1 HO4 hg4 hat4); have HL4 := Aside0.mk (line1 HL3.out HT3.out hg4 hat4); have HXE4 := Aside0.mk (HXE3.out.grow (ext1 hg4) (M3_grow1 hat4)); have hz4 := hg4.size; have HB4' := Aside0.mk hB4; clear HO4 HB4 hg4 hat4 hB4 HT3 HL3 HXE3 HB3 HR3 hx3)))
            go_roundw
            case rel => exact ⟨now + gap + y % 1000, now, i + 1, ts ++ pc, ws, x, rfl, by go_num, by omega, by omega, by omega, by push_cast; omega, by omega, ⟨fun _ => by omega⟩, ⟨by rw [HWS.out, HPX.out]; simp⟩, ⟨by simp; omega, by first | omega | (simp; omega)⟩, HT4, HL4, HB4'⟩
            case measure => simp [intOf]; omega
        · have hypb : decide (0 < y) = false := decide_eq_false hy
          by_cases e2 : x.length ≤ 256
          · have e2b : decide ((x.length : Int) ≤ 256) = true := decide_eq_true (by omega)
            have e2n : decide (x.length ≤ 256) = true := decide_eq_true e2
            have hpx : pend x = [x] := by unfold pend; rw [if_pos (by omega), if_pos e2]
            have HPX := Aside0.mk hpx; clear hpx e2
            all_goals skip
            go_wp2_with (first | (go_at_call 14; (refine (feed (M3 w.heap.size u9 u10) w.heap.size last gap last now came x A c _ (.inl rfl) (HT.out.lt hgs.out) HL.out HXE.out (by omega) (by omega) (by omega) hln hl0 hln (by omega) pc x now F1.out F2.out F3.out).mono ?_; rintro e w3 ⟨v', rfl, HR3, HL3, HX3⟩; obtain ⟨A3, c3, rfl, hc3, HR3⟩ := HR3; have hB3 : Below w.heap.size w w3 := ⟨HX3.os.trans HB.out.os, HX3.tape.trans HB.out.tape, HX3.output.trans HB.out.output, Nat.le_trans HB.out.size HX3.size, fun k hk => (HX3.block k (Nat.lt_of_lt_of_le hk HB.out.size) (fun e => by have e' : k = w.heap.size := e; omega)).trans (HB.out.block k hk)⟩; have hx3 : w3.cell? (ad.add i) = some (.slice A x.length c) := (hB3.cell (World.block_lt_of_cell? w _ HX0.out)).trans HX0.out; have HT3 := Aside0.mk (HT.out.ext HX3); have HL3 := Aside0.mk HL3; have HR3 := Aside0.mk HR3; have HXE3 := Aside0.mk (HXE.out.step (Ext.toM (.inl rfl) HX3)); have HB3 := Aside0.mk hB3; have hz3 := HX3.size; clear HX3 hB3 HT HL HXE F1 F2 F3 HB hx1)) | ((with_reducible refine gate_builtin (b := .append) (xs := #[.tmp 71, .tmp 72]) rfl ?_); (refine ev_append_rows dR (M := M3 w.heap.size u9 u10) (w0 := w3) (w.heap.size + 1) rfl (.tmp 71) (.tmp 72) 28 22 (.slice none 0 0) 24 rfl Try.underlying28 info22 rfl (by decide) (by decide) u9 ts pc A3 pc.length c3 rfl rfl HT3.out.1 (HR3.out.grow (Ext.refl _ _) (fun k a => .inl (Mv_M3 k a))).elems (Below.refl _ _) ?aS (by omega) ?_; (case aS => have := hgs.out; omega); intro v4 w4 HO4 HB4 hg4 hat4; have hB4 : Below w.heap.size w w4 := HB3.out.grown hg4 (Nat.le_trans HB3.out.size (Nat.le_refl _)) (fun k hk => by have := HT3.out.1.base_le k hk; omega); have hq4 : w4.cell? (ad2.add i) = some (.int .i64 y) := (hB4.cell (World.block_lt_of_cell? w _ HY0.out)).trans HY0.out; have hx4 : w4.cell? (ad.add i) = some (.slice A x.length c) := (hB4.cell (World.block_lt_of_cell? w _ HX0.out)).trans HX0.out; have HT4 := Aside0.mk (HT3.out.app1 HO4 hg4 hat4); have HL4 := Aside0.mk (line1 HL3.out HT3.out hg4 hat4); have HXE4 := Aside0.mk (HXE3.out.grow (ext1 hg4) (M3_grow1 hat4)); have hz4 := hg4.size; have HB4' := Aside0.mk hB4; clear HO4 HB4 hg4 hat4 hB4 HT3 HL3 HXE3 HB3 HR3 hx3)) | ((with_reducible refine gate_builtin (b := .append) (xs := #[.tmp 80, .tmp 85]) rfl ?_); at_builtin; (refine ev_append dR (M := M3 w.heap.size u10 v4) (w0 := w4) (w.heap.size + 1) rfl (.tmp 80) (.tmp 85) 28 22 (.slice none 0 0) 24 rfl Try.underlying28 info22 rfl (by decide) (by decide) u10 ws x [.slice A x.length c] rfl ?ax HT4.out.swap.1 ?ap (Below.refl _ _) ?aS (by omega) ?_; (case ax => first | rfl | (go_simp; done) | (go_simp; rfl)); (case ap => exact ⟨fun w2 h2 => ⟨A, c, rfl, HXL.out, HXE4.out.at_ _ (h2.mono (fun k _ a => M3_swap k (Mv_M3 k a)))⟩⟩); (case aS => have := hgs.out; omega); intro v5 w5 HO5 HB5 hg5 hat5; have hB5 : Below w.heap.size w w5 := HB4'.out.grown hg5 (Nat.le_trans HB4'.out.size (Nat.le_refl _)) (fun k hk => by have := HT4.out.2.1.base_le k hk; omega); have hq5 : w5.cell? (ad2.add i) = some (.int .i64 y) := (hB5.cell (World.block_lt_of_cell? w _ HY0.out)).trans HY0.out; have HT5 := Aside0.mk (HT4.out.swap.app1 HO5 hg5 hat5).swap; have HL5 := Aside0.mk (line_swap (line1 (line_swap HL4.out) HT4.out.swap hg5 hat5)); have HB5' := Aside0.mk hB5; clear HO5 HB5 hg5 hat5 hB5 HT4 HL4 HXE4 HB4')))
            go_roundw
            case rel => exact ⟨now + gap, now, i + 1, ts ++ pc, ws ++ [x], x, rfl, by go_num, by omega, by omega, by omega, by push_cast; omega, by omega, ⟨fun _ => by omega⟩, ⟨by rw [HWS.out, HPX.out]⟩, ⟨by simp; omega, by first | omega | (simp; omega)⟩, HT5, HL5, HB5'⟩
            case measure => simp [intOf]; omega
          · have e2b : decide ((x.length : Int) ≤ 256) = false := decide_eq_false (by omega)
            have e2n : decide (x.length ≤ 256) = false := decide_eq_false e2
            have hpx : pend x = [] := by unfold pend; rw [if_pos (by omega), if_neg e2]
            have HPX := Aside0.mk hpx; clear hpx e2
            all_goals skip
            go_wp2_with (first | (go_at_call 14; (refine (feed (M3 w.heap.size u9 u10) w.heap.size last gap last now came x A c _ (.inl rfl) (HT.out.lt hgs.out) HL.out HXE.out (by omega) (by omega) (by omega) hln hl0 hln (by omega) pc x now F1.out F2.out F3.out).mono ?_; rintro e w3 ⟨v', rfl, HR3, HL3, HX3⟩; obtain ⟨A3, c3, rfl, hc3, HR3⟩ := HR3; have hB3 : Below w.heap.size w w3 := ⟨HX3.os.trans HB.out.os, HX3.tape.trans HB.out.tape, HX3.output.trans HB.out.output, Nat.le_trans HB.out.size HX3.size, fun k hk => (HX3.block k (Nat.lt_of_lt_of_le hk HB.out.size) (fun e => by have e' : k = w.heap.size := e; omega)).trans (HB.out.block k hk)⟩; have hx3 : w3.cell? (ad.add i) = some (.slice A x.length c) := (hB3.cell (World.block_lt_of_cell? w _ HX0.out)).trans HX0.out; have HT3 := Aside0.mk (HT.out.ext HX3); have HL3 := Aside0.mk HL3; have HR3 := Aside0.mk HR3; have HXE3 := Aside0.mk (HXE.out.step (Ext.toM (.inl rfl) HX3)); have HB3 := Aside0.mk hB3; have hz3 := HX3.size; clear HX3 hB3 HT HL HXE F1 F2 F3 HB hx1)) | ((with_reducible refine gate_builtin (b := .append) (xs := #[.tmp 71, .tmp 72]) rfl ?_); (refine ev_append_rows dR (M := M3 w.heap.size u9 u10) (w0 := w3) (w.heap.size + 1) rfl (.tmp 71) (.tmp 72) 28 22 (.slice none 0 0) 24 rfl Try.underlying28 info22 rfl (by decide) (by decide) u9 ts pc A3 pc.length c3 rfl rfl HT3.out.1 (HR3.out.grow (Ext.refl _ _) (fun k a => .inl (Mv_M3 k a))).elems (Below.refl _ _) ?aS (by omega) ?_; (case aS => have := hgs.out; omega); intro v4 w4 HO4 HB4 hg4 hat4; have hB4 : Below w.heap.size w w4 := HB3.out.grown hg4 (Nat.le_trans HB3.out.size (Nat.le_refl _)) (fun k hk => by have := HT3.out.1.base_le k hk; omega); have hq4 : w4.cell? (ad2.add i) = some (.int .i64 y) := (hB4.cell (World.block_lt_of_cell? w _ HY0.out)).trans HY0.out; have hx4 : w4.cell? (ad.add i) = some (.slice A x.length c) := (hB4.cell (World.block_lt_of_cell? w _ HX0.out)).trans HX0.out; have HT4 := Aside0.mk (HT3.out.app1 HO4 hg4 hat4); have HL4 := Aside0.mk (line1 HL3.out HT3.out hg4 hat4); have HXE4 := Aside0.mk (HXE3.out.grow (ext1 hg4) (M3_grow1 hat4)); have hz4 := hg4.size; have HB4' := Aside0.mk hB4; clear HO4 HB4 hg4 hat4 hB4 HT3 HL3 HXE3 HB3 HR3 hx3)))
            go_roundw
            case rel => exact ⟨now + gap, now, i + 1, ts ++ pc, ws, x, rfl, by go_num, by omega, by omega, by omega, by push_cast; omega, by omega, ⟨fun _ => by omega⟩, ⟨by rw [HWS.out, HPX.out]; simp⟩, ⟨by simp; omega, by first | omega | (simp; omega)⟩, HT4, HL4, HB4'⟩
            case measure => simp [intOf]; omega
      · have hiwb : decide ((i : Int) < (ml.length : Int)) = false := decide_eq_false (by omega)
        have hiwn : decide (i < ml.length) = false := decide_eq_false hiw
        by_cases e2 : x.length ≤ 256
        · have e2b : decide ((x.length : Int) ≤ 256) = true := decide_eq_true (by omega)
          have e2n : decide (x.length ≤ 256) = true := decide_eq_true e2
          have hpx : pend x = [x] := by unfold pend; rw [if_pos (by omega), if_pos e2]
          have HPX := Aside0.mk hpx; clear hpx e2
          go_wp2_with (first | (go_at_call 14; (refine (feed (M3 w.heap.size u9 u10) w.heap.size last gap last now came x A c _ (.inl rfl) (HT.out.lt hgs.out) HL.out HXE.out (by omega) (by omega) (by omega) hln hl0 hln (by omega) pc x now F1.out F2.out F3.out).mono ?_; rintro e w3 ⟨v', rfl, HR3, HL3, HX3⟩; obtain ⟨A3, c3, rfl, hc3, HR3⟩ := HR3; have hB3 : Below w.heap.size w w3 := ⟨HX3.os.trans HB.out.os, HX3.tape.trans HB.out.tape, HX3.output.trans HB.out.output, Nat.le_trans HB.out.size HX3.size, fun k hk => (HX3.block k (Nat.lt_of_lt_of_le hk HB.out.size) (fun e => by have e' : k = w.heap.size := e; omega)).trans (HB.out.block k hk)⟩; have hx3 : w3.cell? (ad.add i) = some (.slice A x.length c) := (hB3.cell (World.block_lt_of_cell? w _ HX0.out)).trans HX0.out; have HT3 := Aside0.mk (HT.out.ext HX3); have HL3 := Aside0.mk HL3; have HR3 := Aside0.mk HR3; have HXE3 := Aside0.mk (HXE.out.step (Ext.toM (.inl rfl) HX3)); have HB3 := Aside0.mk hB3; have hz3 := HX3.size; clear HX3 hB3 HT HL HXE F1 F2 F3 HB hx1)) | ((with_reducible refine gate_builtin (b := .append) (xs := #[.tmp 71, .tmp 72]) rfl ?_); (refine ev_append_rows dR (M := M3 w.heap.size u9 u10) (w0 := w3) (w.heap.size + 1) rfl (.tmp 71) (.tmp 72) 28 22 (.slice none 0 0) 24 rfl Try.underlying28 info22 rfl (by decide) (by decide) u9 ts pc A3 pc.length c3 rfl rfl HT3.out.1 (HR3.out.grow (Ext.refl _ _) (fun k a => .inl (Mv_M3 k a))).elems (Below.refl _ _) ?aS (by omega) ?_; (case aS => have := hgs.out; omega); intro v4 w4 HO4 HB4 hg4 hat4; have hB4 : Below w.heap.size w w4 := HB3.out.grown hg4 (Nat.le_trans HB3.out.size (Nat.le_refl _)) (fun k hk => by have := HT3.out.1.base_le k hk; omega); have hx4 : w4.cell? (ad.add i) = some (.slice A x.length c) := (hB4.cell (World.block_lt_of_cell? w _ HX0.out)).trans HX0.out; have HT4 := Aside0.mk (HT3.out.app1 HO4 hg4 hat4); have HL4 := Aside0.mk (line1 HL3.out HT3.out hg4 hat4); have HXE4 := Aside0.mk (HXE3.out.grow (ext1 hg4) (M3_grow1 hat4)); have hz4 := hg4.size; have HB4' := Aside0.mk hB4; clear HO4 HB4 hg4 hat4 hB4 HT3 HL3 HXE3 HB3 HR3 hx3)) | ((with_reducible refine gate_builtin (b := .append) (xs := #[.tmp 80, .tmp 85]) rfl ?_); at_builtin; (refine ev_append dR (M := M3 w.heap.size u10 v4) (w0 := w4) (w.heap.size + 1) rfl (.tmp 80) (.tmp 85) 28 22 (.slice none 0 0) 24 rfl Try.underlying28 info22 rfl (by decide) (by decide) u10 ws x [.slice A x.length c] rfl ?ax HT4.out.swap.1 ?ap (Below.refl _ _) ?aS (by omega) ?_; (case ax => first | rfl | (go_simp; done) | (go_simp; rfl)); (case ap => exact ⟨fun w2 h2 => ⟨A, c, rfl, HXL.out, HXE4.out.at_ _ (h2.mono (fun k _ a => M3_swap k (Mv_M3 k a)))⟩⟩); (case aS => have := hgs.out; omega); intro v5 w5 HO5 HB5 hg5 hat5; have hB5 : Below w.heap.size w w5 := HB4'.out.grown hg5 (Nat.le_trans HB4'.out.size (Nat.le_refl _)) (fun k hk => by have := HT4.out.2.1.base_le k hk; omega); have HT5 := Aside0.mk (HT4.out.swap.app1 HO5 hg5 hat5).swap; have HL5 := Aside0.mk (line_swap (line1 (line_swap HL4.out) HT4.out.swap hg5 hat5)); have HB5' := Aside0.mk hB5; clear HO5 HB5 hg5 hat5 hB5 HT4 HL4 HXE4 HB4')))
          go_roundw
          case rel => exact ⟨now + gap, now, i + 1, ts ++ pc, ws ++ [x], x, rfl, by go_num, by omega, by omega, by omega, by push_cast; omega, by omega, ⟨fun _ => by omega⟩, ⟨by rw [HWS.out, HPX.out]⟩, ⟨by simp; omega, by first | omega | (simp; omega)⟩, HT5, HL5, HB5'⟩
          case measure => simp [intOf]; omega
        · have e2b : decide ((x.length : Int) ≤ 256) = false := decide_eq_false (by omega)
          have e2n : decide (x.length ≤ 256) = false := decide_eq_false e2
          have hpx : pend x = [] := by unfold pend; rw [if_pos (by omega), if_neg e2]
          have HPX := Aside0.mk hpx; clear hpx e2
          go_wp2_with (first | (go_at_call 14; (refine (feed (M3 w.heap.size u9 u10) w.heap.size last gap last now came x A c _ (.inl rfl) (HT.out.lt hgs.out) HL.out HXE.out (by omega) (by omega) (by omega) hln hl0 hln (by omega) pc x now F1.out F2.out F3.out).mono ?_; rintro e w3 ⟨v', rfl, HR3, HL3, HX3⟩; obtain ⟨A3, c3, rfl, hc3, HR3⟩ := HR3; have hB3 : Below w.heap.size w w3 := ⟨HX3.os.trans HB.out.os, HX3.tape.trans HB.out.tape, HX3.output.trans HB.out.output, Nat.le_trans HB.out.size HX3.size, fun k hk => (HX3.block k (Nat.lt_of_lt_of_le hk HB.out.size) (fun e => by have e' : k = w.heap.size := e; omega)).trans (HB.out.block k hk)⟩; have hx3 : w3.cell? (ad.add i) = some (.slice A x.length c) := (hB3.cell (World.block_lt_of_cell? w _ HX0.out)).trans HX0.out; have HT3 := Aside0.mk (HT.out.ext HX3); have HL3 := Aside0.mk HL3; have HR3 := Aside0.mk HR3; have HXE3 := Aside0.mk (HXE.out.step (Ext.toM (.inl rfl) HX3)); have HB3 := Aside0.mk hB3; have hz3 := HX3.size; clear HX3 hB3 HT HL HXE F1 F2 F3 HB hx1)) | ((with_reducible refine gate_builtin (b := .append) (xs := #[.tmp 71, .tmp 72]) rfl ?_); (refine ev_append_rows dR (M := M3 w.heap.size u9 u10) (w0 := w3) (w.heap.size + 1) rfl (.tmp 71) (.tmp 72) 28 22 (.slice none 0 0) 24 rfl Try.underlying28 info22 rfl (by decide) (by decide) u9 ts pc A3 pc.length c3 rfl rfl HT3.out.1 (HR3.out.grow (Ext.refl _ _) (fun k a => .inl (Mv_M3 k a))).elems (Below.refl _ _) ?aS (by omega) ?_; (case aS => have := hgs.out; omega); intro v4 w4 HO4 HB4 hg4 hat4; have hB4 : Below w.heap.size w w4 := HB3.out.grown hg4 (Nat.le_trans HB3.out.size (Nat.le_refl _)) (fun k hk => by have := HT3.out.1.base_le k hk; omega); have hx4 : w4.cell? (ad.add i) = some (.slice A x.length c) := (hB4.cell (World.block_lt_of_cell? w _ HX0.out)).trans HX0.out; have HT4 := Aside0.mk (HT3.out.app1 HO4 hg4 hat4); have HL4 := Aside0.mk (line1 HL3.out HT3.out hg4 hat4); have HXE4 := Aside0.mk (HXE3.out.grow (ext1 hg4) (M3_grow1 hat4)); have hz4 := hg4.size; have HB4' := Aside0.mk hB4; clear HO4 HB4 hg4 hat4 hB4 HT3 HL3 HXE3 HB3 HR3 hx3)))
          go_roundw
          case rel => exact ⟨now + gap, now, i + 1, ts ++ pc, ws, x, rfl, by go_num, by omega, by omega, by omega, by push_cast; omega, by omega, ⟨fun _ => by omega⟩, ⟨by rw [HWS.out, HPX.out]; simp⟩, ⟨by simp; omega, by first | omega | (simp; omega)⟩, HT4, HL4, HB4'⟩
          case measure => simp [intOf]; omega
    · obtain rfl : i = rs.length := by omega
      have hltb : decide ((rs.length : Int) < (rs.length : Int)) = false := decide_eq_false (by omega)
      have hltn : decide (rs.length < rs.length) = false := decide_eq_false (by omega)
      have F1 : Aside0 (lOut gap last came now = pend came) := ⟨pend_out HG.out⟩
      have F2 : Aside0 (lCame gap last came now [] = []) := ⟨pend_came HG.out⟩
      have hpl := pend_len came
      have hlen1 := HLN.out.1; have hlen2 := HLN.out.2
      generalize hpc : pend came = pc at F1 HWS hpl; clear hpc
      go_wp2_with (first | (go_at_call 15; (refine (wait (M3 w.heap.size u9 u10) w.heap.size last gap last now came _ (.inl rfl) (HT.out.lt hgs.out) HL.out (by omega) (by omega) hln hl0 hln (by omega) pc [] F1.out F2.out).mono ?_; rintro e w3 ⟨v', rfl, HR3, HL3, HX3⟩; obtain ⟨A3, c3, rfl, hc3, HR3⟩ := HR3; have hB3 : Below w.heap.size w w3 := ⟨HX3.os.trans HB.out.os, HX3.tape.trans HB.out.tape, HX3.output.trans HB.out.output, Nat.le_trans HB.out.size HX3.size, fun k hk => (HX3.block k (Nat.lt_of_lt_of_le hk HB.out.size) (fun e => by have e' : k = w.heap.size := e; omega)).trans (HB.out.block k hk)⟩; have HT3 := Aside0.mk (HT.out.ext HX3); have HR3 := Aside0.mk HR3; have HB3 := Aside0.mk hB3; have hz3 := HX3.size; clear HX3 hB3 HT HL HB HL3)) | ((with_reducible refine gate_builtin (b := .append) (xs := #[.tmp 114, .tmp 115]) rfl ?_); (refine ev_append_rows dR (M := M3 w.heap.size u9 u10) (w0 := w3) (w.heap.size + 1) rfl (.tmp 114) (.tmp 115) 28 22 (.slice none 0 0) 24 rfl Try.underlying28 info22 rfl (by decide) (by decide) u9 ts pc A3 pc.length c3 rfl rfl HT3.out.1 (HR3.out.grow (Ext.refl _ _) (fun k a => .inl (Mv_M3 k a))).elems (Below.refl _ _) ?aS (by omega) ?_; (case aS => have := hgs.out; omega); intro v4 w4 HO4 HB4 hg4 hat4; have hB4 : Below w.heap.size w w4 := HB3.out.grown hg4 (Nat.le_trans HB3.out.size (Nat.le_refl _)) (fun k hk => by have := HT3.out.1.base_le k hk; omega); have HT4 := Aside0.mk (HT3.out.app1 HO4 hg4 hat4); have HB4' := Aside0.mk hB4; clear HO4 HB4 hg4 hat4 hB4 HT3 HB3 HR3)) | (go_at_call 16; (refine (awake5 _).mono ?_; rintro e w5 ⟨rfl, HBa⟩; have HT5 := HT4.out.below HBa; rw [← HWS.out] at HT5; obtain ⟨A5, c5, rfl, _, HR5⟩ := (HT5.1.moreM (M' := fun _ => False) (fun k hk => hk.elim)).row (fun k _ h => h); obtain ⟨A6, c6, rfl, _, HR6⟩ := (HT5.2.1.moreM (M' := fun _ => False) (fun k hk => hk.elim)).row (fun k _ h => h); have HR5 := Aside0.mk HR5.ever.now; have HR6 := Aside0.mk HR6.ever.now; have HB5 := Aside0.mk (below_step HB4'.out HBa); clear HT4 HBa HT5)) | (go_at_call 17; (refine (rows_true A5 A6 c5 c6 ws _ HR5 HR6).mono ?_; rintro e w' ⟨rfl, ⟨nd, rfl⟩⟩)))
      go_ret
      exact ⟨rfl, pw_below_drewN HB5.out _⟩
set_option maxHeartbeats 8000000 in
set_option maxRecDepth 100000 in
theorem row_walk (gap : Int) (A1 : Option Addr) (c1 : Nat) (rs : List (List Int)) (A2 : Option Addr) (c2 : Nat) (ml : List Int) (w : World) (hgb : -9223372036854775808 ≤ gap ∧ gap ≤ 9223372036854775807) (HV1 : Aside0 (Kd.C dR w A1 rs.length rs)) (HC1 : Aside0 (rs.length ≤ c1)) (hby : ∀ l ∈ rs, ∀ x ∈ l, 0 ≤ x ∧ x < 256) (HV2 : Aside0 (Kd.C (Kd.int .i64) w A2 ml.length ml)) (HC2 : Aside0 (ml.length ≤ c2)) (hm64 : ∀ x ∈ ml, -9223372036854775808 ≤ x ∧ x ≤ 9223372036854775807) :
    Calls Try.prog 4 #[.int .i64 gap, .slice A1 rs.length c1, .slice A2 ml.length c2] w fun e w' => e = .returned (.bool true) ∧ Below w.heap.size w w' := by
  have hr64 := HV1.out.2.1
  clear hby
  by_cases g1 : gap < 1
  · have q1 : decide (gap < 1) = true := decide_eq_true g1
    clear hm64
    go_enter Try.func4, Try.ntmps4
    go_wp2
    go_ret
    exact ⟨rfl, Below.refl _ _⟩
  have q1 : decide (gap < 1) = false := decide_eq_false g1
  by_cases g2 : 1000 < gap
  · have q2 : decide (1000 < gap) = true := decide_eq_true g2
    clear hm64
    go_enter Try.func4, Try.ntmps4
    go_wp2
    go_ret
    exact ⟨rfl, Below.refl _ _⟩
  have q2 : decide (1000 < gap) = false := decide_eq_false g2
  by_cases g3 : 40 < rs.length
  · have q3 : decide (40 < (rs.length : Int)) = true := decide_eq_true (by omega)
    have q3n : decide (40 < rs.length) = true := decide_eq_true g3
    clear hm64
    go_enter Try.func4, Try.ntmps4
    go_wp2
    go_ret
    exact ⟨rfl, Below.refl _ _⟩
  exact row_main gap A1 c1 rs A2 c2 ml w HV1 HC1 HV2 HC2 (by omega) (by omega) (by omega) hm64

end Go.Proofs.Ytabjlanomebonaa.HandRow

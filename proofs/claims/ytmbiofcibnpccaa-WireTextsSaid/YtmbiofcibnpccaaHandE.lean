/- The walk of WireTexts: whatever the bytes, the text and the number, the call returns true. -/
import Derived.Test.YtmbiofcibnpccaaMathC
import Derived.Test.YtmbiofcibnpccaaPAllx7
namespace Go.Proofs.Ytmbiofcibnpccaa.HandE
open Go.RowKit Go.Proofs.YtmbiofcibnpccaaW.PrintWords Go.Proofs.YtmbiofcibnpccaaW.PrintLast Go.Proofs.YtmbiofcibnpccaaW.PrintMore Go.Proofs.Ytmbiofcibnpccaa.Ext Go.Proofs.Ytmbiofcibnpccaa.ExtC Go.Proofs.Ytmbiofcibnpccaa.ExtD Go.Proofs.Ytmbiofcibnpccaa.ExtE Go.Proofs.Ytmbiofcibnpccaa.PAll Go.Proofs.Ytmbiofcibnpccaa.PB Go.Proofs.Ytmbiofcibnpccaa.Math Go.Proofs.Ytmbiofcibnpccaa.MathC
set_option linter.unusedVariables false
set_option linter.unusedSimpArgs false

theorem str_bytes (s : ByteArray) : strOfNums (bytesOf s) = s := by
  unfold strOfNums bytesOf
  have : (s.data.toList.map (fun b => (b.toNat : Int))).map (fun n => UInt8.ofNat n.toNat) = s.data.toList := by
    rw [List.map_map]
    conv => rhs; rw [← List.map_id s.data.toList]
    apply List.map_congr_left
    intro b _
    simp
  rw [this]
theorem bytes_text (s : ByteArray) : Bytes (bytesOf s) := by
  intro x hx
  unfold bytesOf at hx
  obtain ⟨b, _, rfl⟩ := List.mem_map.1 hx
  have := b.toNat_lt
  omega
theorem bytes_app {a b : List Int} (ha : Bytes a) (hb : Bytes b) : Bytes (a ++ b) := by
  intro x hx
  rcases List.mem_append.1 hx with h | h
  · exact ha x h
  · exact hb x h
theorem bytes_two {a b : Int} (h0 : 0 ≤ a ∧ a < 256) (h1 : 0 ≤ b ∧ b < 256) : Bytes [a, b] := by
  intro x hx
  simp only [List.mem_cons, List.not_mem_nil, or_false] at hx
  rcases hx with rfl | rfl <;> assumption
/-- What PutText writes, with anything behind it. -/
def lay (l : List Int) (s : ByteArray) : List Int := l ++ [((s.size / 256 : Nat) : Int), ((s.size % 256 : Nat) : Int)] ++ bytesOf s
theorem lay_len (l : List Int) (s : ByteArray) : (lay l s).length = l.length + 2 + s.size := by
  unfold lay; simp [bytesOf_length]; omega
theorem lay_bytes {l : List Int} {s : ByteArray} (hb : Bytes l) (hs : s.size ≤ 65535) : Bytes (lay l s) := by
  unfold lay; exact bytes_app (bytes_app hb (bytes_two (by omega) (by omega))) (bytes_text s)
theorem rd_app (l m : List Int) (k : Nat) : rd (l ++ m) ((l.length : Int) + (k : Int)) = rd m (k : Int) := by
  show (l ++ m).getD ((l.length : Int) + (k : Int)).toNat 0 = m.getD (k : Int).toNat 0
  rw [List.getD_eq_getElem?_getD, List.getD_eq_getElem?_getD, show ((l.length : Int) + (k : Int)).toNat = l.length + k from by omega, List.getElem?_append_right (by omega), show l.length + k - l.length = (k : Int).toNat from by omega]
theorem textat_lay (l t : List Int) (s : ByteArray) (hb : Bytes l) (hs : s.size ≤ 65535) (ht : Bytes t) (hl : l.length ≤ 1000000) (htl : t.length ≤ 1000000) :
    wire_TextAt.f (lay l s ++ t) (l.length : Int) = some (s, (l.length : Int) + 2 + (s.size : Int), 0) := by
  have hlen := lay_len l s
  have hB : Bytes (lay l s ++ t) := bytes_app (lay_bytes hb hs) ht
  have e : lay l s ++ t = l ++ (((s.size / 256 : Nat) : Int) :: ((s.size % 256 : Nat) : Int) :: (bytesOf s ++ t)) := by unfold lay; simp
  have r0 : rd (lay l s ++ t) (l.length : Int) = ((s.size / 256 : Nat) : Int) := by
    rw [e]; exact rd_app l _ 0
  have r1 : rd (lay l s ++ t) ((l.length : Int) + 1) = ((s.size % 256 : Nat) : Int) := by
    rw [e]; exact rd_app l _ 1
  have hsum : 256 * ((s.size / 256 : Nat) : Int) + ((s.size % 256 : Nat) : Int) = (s.size : Int) := by omega
  unfold wire_TextAt.f
  rw [if_pos ⟨hB, by rw [List.length_append, hlen]; omega, by omega, by omega⟩, r0, r1, hsum, if_neg (by omega), if_neg (by rw [List.length_append, hlen]; omega), if_neg (by rw [List.length_append, hlen]; omega)]
  have htk : ((lay l s ++ t).take ((l.length : Int) + 2 + (s.size : Int)).toNat).drop ((l.length : Int) + 2).toNat = bytesOf s := by
    rw [show ((l.length : Int) + 2 + (s.size : Int)).toNat = (lay l s).length from by omega, List.take_left']
    · unfold lay
      rw [show ((l.length : Int) + 2).toNat = (l ++ [((s.size / 256 : Nat) : Int), ((s.size % 256 : Nat) : Int)]).length from by simp; omega, List.drop_left']
      rfl
    · rfl
  rw [htk, str_bytes]
theorem at_end (l : List Int) (n : Int) (hb : Bytes l) (hn : 0 ≤ n ∧ n ≤ 65535) (hl : l.length ≤ 1000000) :
    wire_At.f (l ++ [n / 256, n % 256]) (l.length : Int) = some (n, 0) := by
  have hB : Bytes (l ++ [n / 256, n % 256]) := bytes_app hb (bytes_two (by omega) (by omega))
  have r0 : rd (l ++ [n / 256, n % 256]) (l.length : Int) = n / 256 := rd_app l _ 0
  have r1 : rd (l ++ [n / 256, n % 256]) ((l.length : Int) + 1) = n % 256 := rd_app l _ 1
  unfold wire_At.f
  rw [if_pos ⟨hB, by simp; omega, by omega, by omega⟩, r0, r1, if_neg (by omega), if_neg (by simp), show 256 * (n / 256) + n % 256 = n from by omega]

set_option maxHeartbeats 8000000 in
set_option maxRecDepth 1000000 in
theorem texts_yes (A0 : Option Addr) (c0 : Nat) (l0 : List Int) (s : ByteArray) (n : Int) (w : World) (HC0 : Aside0 (Kd.C (Kd.int .u8) w A0 l0.length l0)) (hc0 : l0.length ≤ c0) (hl : l0.length ≤ 2000)
    (hs0 : Aside0 (basculelaw01_small.f l0 = some true)) (hz : s.size ≤ 65535) (h7 : decide ((70000 : Int) < (s.size : Int)) = false) (h6 : decide ((65535 : Int) < (s.size : Int)) = false) (q c e : List Int)
    (fpt : Aside0 (wire_PutText.f l0 s = some (c, 0))) (ftext : Aside0 (basculeref01_Text.f s = some q)) (fboth : Aside0 (basculeref01_Both.f l0 q = some c))
    (fput : Aside0 (wire_Put.f c n = some (e, 0))) (fta : Aside0 (wire_TextAt.f c (l0.length : Int) = some (s, (c.length : Int), 0))) (ftb : Aside0 (wire_TextAt.f e (l0.length : Int) = some (s, (c.length : Int), 0)))
    (fat : Aside0 (wire_At.f e (c.length : Int) = some (n, 0))) :
    Calls Try.prog 11 #[.slice A0 l0.length c0, .string s, .int .i64 n] w fun e w' => e = .returned (.bool true) ∧ Below w.heap.size w w' := by
  have faw : Aside0 (basculelaw01_awake.f = some true) := ⟨rfl⟩
  have HB0 := Aside0.mk (Below.refl w.heap.size w)
  have tok1 := Aside0.mk trivial
  obtain ⟨i0, hi, hz0, hz1, hz2⟩ := info_parts Ext.info5
  go_enter Try.func11, Try.ntmps11
  go_wp2_with (first
    | (go_at_call 30; (refine (basculelaw01_small.calls A0 c0 l0 true _ HC0.out hc0 hs0.out).mono ?_; rintro e w' ⟨rfl, ⟨nd1, rfl⟩⟩))
    | (go_at_call 37; (refine (wire_PutText.calls A0 c0 l0 s c 0 _ (by (with_reducible repeat (first | refine Kd.C_alloc ?_ _ | refine Kd.C_drewN ?_ _ | refine Kd.C_drew ?_)); exact HC0.out) hc0 fpt.out).mono ?_; rintro e w1 ⟨v, rfl, HR, HB⟩; obtain ⟨A1, c1, rfl, hc, HC⟩ := Kd.R_reads HR; have HC0 := Aside0.mk (Kd.C_below (by (with_reducible repeat (first | refine Kd.C_alloc ?_ _ | refine Kd.C_drewN ?_ _ | refine Kd.C_drew ?_)); exact HC0.out) HB); have HB0 := Aside0.mk (below_step (by repeat (first | exact HB0.out | apply below_alloc | apply pw_below_drewN | apply below_drew1 | apply below_drew)) HB); have HC1 := Aside0.mk HC; have hc1 := Aside0.mk hc; clear HR HB HC hc; have hcv1 := (string_of_reads (P := Try.prog) (c := c1) Try.underlying22 Try.underlying5 Try.underlying9 (Kd.reads_of_C HC1.out))))
    )
  refine start_ (n := 12) (S := fun W => Sem.run Try.prog (convert 22 9 (.slice A1 c.length c1)) W = .ok (.string (strOfNums c)) W) (ds := []) #[false, false, false, false, false, false, false, false, false, false, false, false] (by kernel_rfl) rfl rfl ?_ (fun hHeld => ?_)
  · exact (string_of_reads (P := Try.prog) (c := c1) Try.underlying22 Try.underlying5 Try.underlying9 (Kd.reads_of_C (by (with_reducible repeat (first | refine Kd.C_alloc ?_ _ | refine Kd.C_drewN ?_ _ | refine Kd.C_drew ?_)); exact HC1.out)))
  refine pure_ (i := 0) (N := some 46) (v := ?_) (a' := ?_) #[true, false, false, false, false, false, false, false, false, false, false, false] rfl rfl (by kernel_rfl) (fun _ _ _ h => h) (Or.inl ⟨by rfl, ?_⟩) ?_ ?_
  rotate_left
  · intro w'
    go_simp
    with_reducible rfl
  rotate_left
  · simp only [Act.put, List.setIfInBounds_toArray, List.set_cons_zero, List.set_cons_succ, i64_w, i32_w]
    rfl
  refine pure_ (i := 1) (N := some 47) (v := ?_) (a' := ?_) #[true, true, false, false, false, false, false, false, false, false, false, false] rfl rfl (by kernel_rfl) (fun _ _ _ h => h) (Or.inl ⟨by rfl, ?_⟩) ?_ ?_
  rotate_left
  · intro w'
    go_simp
    with_reducible rfl
  rotate_left
  · simp only [Act.put, List.setIfInBounds_toArray, List.set_cons_zero, List.set_cons_succ, i64_w, i32_w]
    rfl
  refine pure_ (i := 2) (N := some 48) (v := ?_) (a' := ?_) #[true, true, true, false, false, false, false, false, false, false, false, false] rfl rfl (by kernel_rfl) (fun _ _ _ h => h) (Or.inl ⟨by rfl, ?_⟩) ?_ ?_
  rotate_left
  · intro w'
    go_simp
    with_reducible rfl
  rotate_left
  · simp only [Act.put, List.setIfInBounds_toArray, List.set_cons_zero, List.set_cons_succ, i64_w, i32_w]
    rfl
  refine pure_ (i := 3) (N := some 49) (v := ?_) (a' := ?_) #[true, true, true, true, false, false, false, false, false, false, false, false] rfl rfl (by kernel_rfl) (fun _ _ _ h => h) (Or.inl ⟨by rfl, ?_⟩) ?_ ?_
  rotate_left
  · intro w'
    go_simp
    with_reducible rfl
  rotate_left
  · simp only [Act.put, List.setIfInBounds_toArray, List.set_cons_zero, List.set_cons_succ, i64_w, i32_w]
    rfl
  refine take_ (i := 4) (N := some 50) (v := ?_) (a' := ?_) #[true, true, true, true, true, false, false, false, false, false, false, false] rfl rfl (by kernel_rfl) (fun _ _ _ h => h) (Or.inl ⟨by rfl, ?_⟩) hHeld ?_ ?_
  rotate_left
  · intro w' hS_
    go_simp
    with_reducible rfl
  rotate_left
  · simp only [Act.put, List.setIfInBounds_toArray, List.set_cons_zero, List.set_cons_succ, i64_w, i32_w]
    rfl
  refine pure_ (i := 5) (N := some 51) (v := ?_) (a' := ?_) #[true, true, true, true, true, true, false, false, false, false, false, false] rfl rfl (by kernel_rfl) (fun _ _ _ h => h) (Or.inl ⟨by rfl, ?_⟩) ?_ ?_
  rotate_left
  · intro w'
    go_simp
    with_reducible rfl
  rotate_left
  · simp only [Act.put, List.setIfInBounds_toArray, List.set_cons_zero, List.set_cons_succ, i64_w, i32_w]
    rfl
  refine pure_ (i := 6) (N := some 52) (v := ?_) (a' := ?_) #[true, true, true, true, true, true, true, false, false, false, false, false] rfl rfl (by kernel_rfl) (fun _ _ _ h => h) (Or.inl ⟨by rfl, ?_⟩) ?_ ?_
  rotate_left
  · intro w'
    go_simp
    with_reducible rfl
  rotate_left
  · simp only [Act.put, List.setIfInBounds_toArray, List.set_cons_zero, List.set_cons_succ, i64_w, i32_w]
    rfl
  refine one_ (i := 7) (N := some 53) #[true, true, true, true, true, true, true, true, false, false, false, false] rfl rfl (by kernel_rfl) (by decide) (fun K hK => ?_)
  refine goes_ Try.func38 (by kernel_rfl) rfl #[.string s] (by rfl) rfl rfl (by (try simp only [List.map_toArray, List.map_cons, List.map_nil]); first | done | rfl) ?_
  refine (basculeref01_Text.calls s q _ ftext.out).mono ?_
  rintro e w2 ⟨v, rfl, HR, HB⟩; obtain ⟨A2, c2, rfl, hc, HC⟩ := Kd.R_reads HR
  refine ⟨_, rfl, ?_⟩
  have HC0 := Aside0.mk (Kd.C_below (by (with_reducible repeat (first | refine Kd.C_alloc ?_ _ | refine Kd.C_drewN ?_ _ | refine Kd.C_drew ?_)); exact HC0.out) HB); have HC1 := Aside0.mk (Kd.C_below (by (with_reducible repeat (first | refine Kd.C_alloc ?_ _ | refine Kd.C_drewN ?_ _ | refine Kd.C_drew ?_)); exact HC1.out) HB); have HB0 := Aside0.mk (below_step (by repeat (first | exact HB0.out | apply below_alloc | apply pw_below_drewN | apply below_drew1 | apply below_drew)) HB); have HC2 := Aside0.mk HC; have hc2 := Aside0.mk hc; clear HR HB HC hc
  refine hK.out _ _ ?_ (fun hHeld => ?_)
  · exact (string_of_reads (P := Try.prog) (c := c1) Try.underlying22 Try.underlying5 Try.underlying9 (Kd.reads_of_C (by (with_reducible repeat (first | refine Kd.C_alloc ?_ _ | refine Kd.C_drewN ?_ _ | refine Kd.C_drew ?_)); exact HC1.out)))
  clear hK K
  refine norm_ (a' := ?_) ?_ ?_
  rotate_left
  · show Act.put _ (some 53) _ = _
    simp only [Act.put, List.setIfInBounds_toArray, List.set_cons_zero, List.set_cons_succ, i64_w, i32_w]
    rfl
  refine one_ (i := 8) (N := some 54) #[true, true, true, true, true, true, true, true, true, false, false, false] rfl rfl (by kernel_rfl) (by decide) (fun K hK => ?_)
  refine goes_ Try.func29 (by kernel_rfl) rfl #[.slice A0 l0.length c0, .slice A2 q.length c2] (by rfl) rfl rfl (by (try simp only [List.map_toArray, List.map_cons, List.map_nil]); first | done | rfl) ?_
  refine (basculeref01_Both.calls A0 c0 l0 A2 c2 q c _ (by (with_reducible repeat (first | refine Kd.C_alloc ?_ _ | refine Kd.C_drewN ?_ _ | refine Kd.C_drew ?_)); exact HC0.out) hc0 (by (with_reducible repeat (first | refine Kd.C_alloc ?_ _ | refine Kd.C_drewN ?_ _ | refine Kd.C_drew ?_)); exact HC2.out) hc2.out fboth.out).mono ?_
  rintro e w3 ⟨v, rfl, HR, HB⟩; obtain ⟨A3, c3, rfl, hc, HC⟩ := Kd.R_reads HR
  refine ⟨_, rfl, ?_⟩
  have HC0 := Aside0.mk (Kd.C_below (by (with_reducible repeat (first | refine Kd.C_alloc ?_ _ | refine Kd.C_drewN ?_ _ | refine Kd.C_drew ?_)); exact HC0.out) HB); have HC1 := Aside0.mk (Kd.C_below (by (with_reducible repeat (first | refine Kd.C_alloc ?_ _ | refine Kd.C_drewN ?_ _ | refine Kd.C_drew ?_)); exact HC1.out) HB); have HB0 := Aside0.mk (below_step (by repeat (first | exact HB0.out | apply below_alloc | apply pw_below_drewN | apply below_drew1 | apply below_drew)) HB); have HC3 := Aside0.mk HC; have hc3 := Aside0.mk hc; clear HR HB HC hc
  refine hK.out _ _ ?_ (fun hHeld => ?_)
  · exact (string_of_reads (P := Try.prog) (c := c1) Try.underlying22 Try.underlying5 Try.underlying9 (Kd.reads_of_C (by (with_reducible repeat (first | refine Kd.C_alloc ?_ _ | refine Kd.C_drewN ?_ _ | refine Kd.C_drew ?_)); exact HC1.out)))
  clear hK K
  refine norm_ (a' := ?_) ?_ ?_
  rotate_left
  · show Act.put _ (some 54) _ = _
    simp only [Act.put, List.setIfInBounds_toArray, List.set_cons_zero, List.set_cons_succ, i64_w, i32_w]
    rfl
  refine more1_ (S' := fun W => Sem.run Try.prog (convert 22 9 (.slice A1 c.length c1)) W = .ok (.string (strOfNums c)) W ∧ Sem.run Try.prog (convert 22 9 (.slice A3 c.length c3)) W = .ok (.string (strOfNums c)) W) (fun W h_ => h_.1) ?_ (fun hHeld => ?_)
  · exact ⟨(string_of_reads (P := Try.prog) (c := c1) Try.underlying22 Try.underlying5 Try.underlying9 (Kd.reads_of_C (by (with_reducible repeat (first | refine Kd.C_alloc ?_ _ | refine Kd.C_drewN ?_ _ | refine Kd.C_drew ?_)); exact HC1.out))), (string_of_reads (P := Try.prog) (c := c3) Try.underlying22 Try.underlying5 Try.underlying9 (Kd.reads_of_C (by (with_reducible repeat (first | refine Kd.C_alloc ?_ _ | refine Kd.C_drewN ?_ _ | refine Kd.C_drew ?_)); exact HC3.out)))⟩
  refine take_ (i := 9) (N := some 55) (v := ?_) (a' := ?_) #[true, true, true, true, true, true, true, true, true, true, false, false] rfl rfl (by kernel_rfl) (fun _ _ _ h => h) (Or.inl ⟨by rfl, ?_⟩) hHeld ?_ ?_
  rotate_left
  · intro w' hS_
    go_simp
    with_reducible rfl
  rotate_left
  · simp only [Act.put, List.setIfInBounds_toArray, List.set_cons_zero, List.set_cons_succ, i64_w, i32_w]
    rfl
  refine pure_ (i := 10) (N := some 56) (v := ?_) (a' := ?_) #[true, true, true, true, true, true, true, true, true, true, true, false] rfl rfl (by kernel_rfl) (fun _ _ _ h => h) (Or.inl ⟨by rfl, ?_⟩) ?_ ?_
  rotate_left
  · intro w'
    go_simp
    with_reducible rfl
  rotate_left
  · simp only [Act.put, List.setIfInBounds_toArray, List.set_cons_zero, List.set_cons_succ, i64_w, i32_w]
    rfl
  refine pure_ (i := 11) (N := some 57) (v := ?_) (a' := ?_) #[true, true, true, true, true, true, true, true, true, true, true, true] rfl rfl (by kernel_rfl) (fun _ _ _ h => h) (Or.inl ⟨by rfl, ?_⟩) ?_ ?_
  rotate_left
  · intro w'
    go_simp
    with_reducible rfl
  rotate_left
  · simp only [Act.put, List.setIfInBounds_toArray, List.set_cons_zero, List.set_cons_succ, i64_w, i32_w]
    rfl
  refine done_ (by kernel_rfl) ?_
  go_wp2_with (first
    | (go_at_call 31; (refine (wire_Put.calls A1 c1 c n e 0 _ (by (with_reducible repeat (first | refine Kd.C_alloc ?_ _ | refine Kd.C_drewN ?_ _ | refine Kd.C_drew ?_)); exact HC1.out) hc1.out fput.out).mono ?_; rintro e w4 ⟨v, rfl, HR, HB⟩; obtain ⟨A4, c4, rfl, hc, HC⟩ := Kd.R_reads HR; have HC1 := Aside0.mk (Kd.C_below (by (with_reducible repeat (first | refine Kd.C_alloc ?_ _ | refine Kd.C_drewN ?_ _ | refine Kd.C_drew ?_)); exact HC1.out) HB); have HB0 := Aside0.mk (below_step (by repeat (first | exact HB0.out | apply below_alloc | apply pw_below_drewN | apply below_drew1 | apply below_drew)) HB); have HC4 := Aside0.mk HC; have hc4 := Aside0.mk hc; clear HR HB HC hc))
    | (go_at_call 35; have _t := tok1; (refine (wire_TextAt.calls A1 c1 c (l0.length : Int) s (c.length : Int) 0 _ (by (with_reducible repeat (first | refine Kd.C_alloc ?_ _ | refine Kd.C_drewN ?_ _ | refine Kd.C_drew ?_)); exact HC1.out) hc1.out fta.out).mono ?_; rintro e w' ⟨rfl, ⟨nd5, rfl⟩⟩; clear tok1 _t; have tok2 := Aside0.mk trivial))
    | (go_at_call 35; have _t := tok2; (refine (wire_TextAt.calls A4 c4 e (l0.length : Int) s (c.length : Int) 0 _ (by (with_reducible repeat (first | refine Kd.C_alloc ?_ _ | refine Kd.C_drewN ?_ _ | refine Kd.C_drew ?_)); exact HC4.out) hc4.out ftb.out).mono ?_; rintro e w' ⟨rfl, ⟨nd6, rfl⟩⟩; clear tok2 _t; have tok3 := Aside0.mk trivial))
    | (go_at_call 34; (refine (wire_At.calls A4 c4 e (c.length : Int) n 0 _ (by (with_reducible repeat (first | refine Kd.C_alloc ?_ _ | refine Kd.C_drewN ?_ _ | refine Kd.C_drew ?_)); exact HC4.out) hc4.out fat.out).mono ?_; rintro e w' ⟨rfl, ⟨nd7, rfl⟩⟩))
    | (go_at_call 32; (refine (basculelaw01_awake.calls true _ faw.out).mono ?_; rintro e w8 ⟨rfl, HB⟩; have HC1 := Aside0.mk (Kd.C_below (by (with_reducible repeat (first | refine Kd.C_alloc ?_ _ | refine Kd.C_drewN ?_ _ | refine Kd.C_drew ?_)); exact HC1.out) HB); have HB0 := Aside0.mk (below_step (by repeat (first | exact HB0.out | apply below_alloc | apply pw_below_drewN | apply below_drew1 | apply below_drew)) HB); clear HB))
    )
  go_ret
  exact ⟨rfl, (by repeat (first | exact HB0.out | apply below_alloc | apply pw_below_drewN | apply below_drew1 | apply below_drew))⟩

set_option maxHeartbeats 8000000 in
set_option maxRecDepth 1000000 in
theorem texts_no (A0 : Option Addr) (c0 : Nat) (l0 : List Int) (s : ByteArray) (n : Int) (w : World) (HC0 : Aside0 (Kd.C (Kd.int .u8) w A0 l0.length l0)) (hc0 : l0.length ≤ c0) (hl : l0.length ≤ 2000)
    (hs0 : Aside0 (basculelaw01_small.f l0 = some true)) (hz : s.size ≤ 65535) (h7 : decide ((70000 : Int) < (s.size : Int)) = false) (h6 : decide ((65535 : Int) < (s.size : Int)) = false) (q c : List Int)
    (fpt : Aside0 (wire_PutText.f l0 s = some (c, 0))) (ftext : Aside0 (basculeref01_Text.f s = some q)) (fboth : Aside0 (basculeref01_Both.f l0 q = some c))
    (fput : Aside0 (wire_Put.f c n = some ([], 1))) (fta : Aside0 (wire_TextAt.f c (l0.length : Int) = some (s, (c.length : Int), 0))) (fis : Aside0 (basculeref01_Is.f n = some false)) :
    Calls Try.prog 11 #[.slice A0 l0.length c0, .string s, .int .i64 n] w fun e w' => e = .returned (.bool true) ∧ Below w.heap.size w w' := by
  have faw : Aside0 (basculelaw01_awake.f = some true) := ⟨rfl⟩
  have HB0 := Aside0.mk (Below.refl w.heap.size w)
  obtain ⟨i0, hi, hz0, hz1, hz2⟩ := info_parts Ext.info5
  go_enter Try.func11, Try.ntmps11
  go_wp2_with (first
    | (go_at_call 30; (refine (basculelaw01_small.calls A0 c0 l0 true _ HC0.out hc0 hs0.out).mono ?_; rintro e w' ⟨rfl, ⟨nd1, rfl⟩⟩))
    | (go_at_call 37; (refine (wire_PutText.calls A0 c0 l0 s c 0 _ (by (with_reducible repeat (first | refine Kd.C_alloc ?_ _ | refine Kd.C_drewN ?_ _ | refine Kd.C_drew ?_)); exact HC0.out) hc0 fpt.out).mono ?_; rintro e w1 ⟨v, rfl, HR, HB⟩; obtain ⟨A1, c1, rfl, hc, HC⟩ := Kd.R_reads HR; have HC0 := Aside0.mk (Kd.C_below (by (with_reducible repeat (first | refine Kd.C_alloc ?_ _ | refine Kd.C_drewN ?_ _ | refine Kd.C_drew ?_)); exact HC0.out) HB); have HB0 := Aside0.mk (below_step (by repeat (first | exact HB0.out | apply below_alloc | apply pw_below_drewN | apply below_drew1 | apply below_drew)) HB); have HC1 := Aside0.mk HC; have hc1 := Aside0.mk hc; clear HR HB HC hc; have hcv1 := (string_of_reads (P := Try.prog) (c := c1) Try.underlying22 Try.underlying5 Try.underlying9 (Kd.reads_of_C HC1.out))))
    )
  refine start_ (n := 12) (S := fun W => Sem.run Try.prog (convert 22 9 (.slice A1 c.length c1)) W = .ok (.string (strOfNums c)) W) (ds := []) #[false, false, false, false, false, false, false, false, false, false, false, false] (by kernel_rfl) rfl rfl ?_ (fun hHeld => ?_)
  · exact (string_of_reads (P := Try.prog) (c := c1) Try.underlying22 Try.underlying5 Try.underlying9 (Kd.reads_of_C (by (with_reducible repeat (first | refine Kd.C_alloc ?_ _ | refine Kd.C_drewN ?_ _ | refine Kd.C_drew ?_)); exact HC1.out)))
  refine pure_ (i := 0) (N := some 46) (v := ?_) (a' := ?_) #[true, false, false, false, false, false, false, false, false, false, false, false] rfl rfl (by kernel_rfl) (fun _ _ _ h => h) (Or.inl ⟨by rfl, ?_⟩) ?_ ?_
  rotate_left
  · intro w'
    go_simp
    with_reducible rfl
  rotate_left
  · simp only [Act.put, List.setIfInBounds_toArray, List.set_cons_zero, List.set_cons_succ, i64_w, i32_w]
    rfl
  refine pure_ (i := 1) (N := some 47) (v := ?_) (a' := ?_) #[true, true, false, false, false, false, false, false, false, false, false, false] rfl rfl (by kernel_rfl) (fun _ _ _ h => h) (Or.inl ⟨by rfl, ?_⟩) ?_ ?_
  rotate_left
  · intro w'
    go_simp
    with_reducible rfl
  rotate_left
  · simp only [Act.put, List.setIfInBounds_toArray, List.set_cons_zero, List.set_cons_succ, i64_w, i32_w]
    rfl
  refine pure_ (i := 2) (N := some 48) (v := ?_) (a' := ?_) #[true, true, true, false, false, false, false, false, false, false, false, false] rfl rfl (by kernel_rfl) (fun _ _ _ h => h) (Or.inl ⟨by rfl, ?_⟩) ?_ ?_
  rotate_left
  · intro w'
    go_simp
    with_reducible rfl
  rotate_left
  · simp only [Act.put, List.setIfInBounds_toArray, List.set_cons_zero, List.set_cons_succ, i64_w, i32_w]
    rfl
  refine pure_ (i := 3) (N := some 49) (v := ?_) (a' := ?_) #[true, true, true, true, false, false, false, false, false, false, false, false] rfl rfl (by kernel_rfl) (fun _ _ _ h => h) (Or.inl ⟨by rfl, ?_⟩) ?_ ?_
  rotate_left
  · intro w'
    go_simp
    with_reducible rfl
  rotate_left
  · simp only [Act.put, List.setIfInBounds_toArray, List.set_cons_zero, List.set_cons_succ, i64_w, i32_w]
    rfl
  refine take_ (i := 4) (N := some 50) (v := ?_) (a' := ?_) #[true, true, true, true, true, false, false, false, false, false, false, false] rfl rfl (by kernel_rfl) (fun _ _ _ h => h) (Or.inl ⟨by rfl, ?_⟩) hHeld ?_ ?_
  rotate_left
  · intro w' hS_
    go_simp
    with_reducible rfl
  rotate_left
  · simp only [Act.put, List.setIfInBounds_toArray, List.set_cons_zero, List.set_cons_succ, i64_w, i32_w]
    rfl
  refine pure_ (i := 5) (N := some 51) (v := ?_) (a' := ?_) #[true, true, true, true, true, true, false, false, false, false, false, false] rfl rfl (by kernel_rfl) (fun _ _ _ h => h) (Or.inl ⟨by rfl, ?_⟩) ?_ ?_
  rotate_left
  · intro w'
    go_simp
    with_reducible rfl
  rotate_left
  · simp only [Act.put, List.setIfInBounds_toArray, List.set_cons_zero, List.set_cons_succ, i64_w, i32_w]
    rfl
  refine pure_ (i := 6) (N := some 52) (v := ?_) (a' := ?_) #[true, true, true, true, true, true, true, false, false, false, false, false] rfl rfl (by kernel_rfl) (fun _ _ _ h => h) (Or.inl ⟨by rfl, ?_⟩) ?_ ?_
  rotate_left
  · intro w'
    go_simp
    with_reducible rfl
  rotate_left
  · simp only [Act.put, List.setIfInBounds_toArray, List.set_cons_zero, List.set_cons_succ, i64_w, i32_w]
    rfl
  refine one_ (i := 7) (N := some 53) #[true, true, true, true, true, true, true, true, false, false, false, false] rfl rfl (by kernel_rfl) (by decide) (fun K hK => ?_)
  refine goes_ Try.func38 (by kernel_rfl) rfl #[.string s] (by rfl) rfl rfl (by (try simp only [List.map_toArray, List.map_cons, List.map_nil]); first | done | rfl) ?_
  refine (basculeref01_Text.calls s q _ ftext.out).mono ?_
  rintro e w2 ⟨v, rfl, HR, HB⟩; obtain ⟨A2, c2, rfl, hc, HC⟩ := Kd.R_reads HR
  refine ⟨_, rfl, ?_⟩
  have HC0 := Aside0.mk (Kd.C_below (by (with_reducible repeat (first | refine Kd.C_alloc ?_ _ | refine Kd.C_drewN ?_ _ | refine Kd.C_drew ?_)); exact HC0.out) HB); have HC1 := Aside0.mk (Kd.C_below (by (with_reducible repeat (first | refine Kd.C_alloc ?_ _ | refine Kd.C_drewN ?_ _ | refine Kd.C_drew ?_)); exact HC1.out) HB); have HB0 := Aside0.mk (below_step (by repeat (first | exact HB0.out | apply below_alloc | apply pw_below_drewN | apply below_drew1 | apply below_drew)) HB); have HC2 := Aside0.mk HC; have hc2 := Aside0.mk hc; clear HR HB HC hc
  refine hK.out _ _ ?_ (fun hHeld => ?_)
  · exact (string_of_reads (P := Try.prog) (c := c1) Try.underlying22 Try.underlying5 Try.underlying9 (Kd.reads_of_C (by (with_reducible repeat (first | refine Kd.C_alloc ?_ _ | refine Kd.C_drewN ?_ _ | refine Kd.C_drew ?_)); exact HC1.out)))
  clear hK K
  refine norm_ (a' := ?_) ?_ ?_
  rotate_left
  · show Act.put _ (some 53) _ = _
    simp only [Act.put, List.setIfInBounds_toArray, List.set_cons_zero, List.set_cons_succ, i64_w, i32_w]
    rfl
  refine one_ (i := 8) (N := some 54) #[true, true, true, true, true, true, true, true, true, false, false, false] rfl rfl (by kernel_rfl) (by decide) (fun K hK => ?_)
  refine goes_ Try.func29 (by kernel_rfl) rfl #[.slice A0 l0.length c0, .slice A2 q.length c2] (by rfl) rfl rfl (by (try simp only [List.map_toArray, List.map_cons, List.map_nil]); first | done | rfl) ?_
  refine (basculeref01_Both.calls A0 c0 l0 A2 c2 q c _ (by (with_reducible repeat (first | refine Kd.C_alloc ?_ _ | refine Kd.C_drewN ?_ _ | refine Kd.C_drew ?_)); exact HC0.out) hc0 (by (with_reducible repeat (first | refine Kd.C_alloc ?_ _ | refine Kd.C_drewN ?_ _ | refine Kd.C_drew ?_)); exact HC2.out) hc2.out fboth.out).mono ?_
  rintro e w3 ⟨v, rfl, HR, HB⟩; obtain ⟨A3, c3, rfl, hc, HC⟩ := Kd.R_reads HR
  refine ⟨_, rfl, ?_⟩
  have HC0 := Aside0.mk (Kd.C_below (by (with_reducible repeat (first | refine Kd.C_alloc ?_ _ | refine Kd.C_drewN ?_ _ | refine Kd.C_drew ?_)); exact HC0.out) HB); have HC1 := Aside0.mk (Kd.C_below (by (with_reducible repeat (first | refine Kd.C_alloc ?_ _ | refine Kd.C_drewN ?_ _ | refine Kd.C_drew ?_)); exact HC1.out) HB); have HB0 := Aside0.mk (below_step (by repeat (first | exact HB0.out | apply below_alloc | apply pw_below_drewN | apply below_drew1 | apply below_drew)) HB); have HC3 := Aside0.mk HC; have hc3 := Aside0.mk hc; clear HR HB HC hc
  refine hK.out _ _ ?_ (fun hHeld => ?_)
  · exact (string_of_reads (P := Try.prog) (c := c1) Try.underlying22 Try.underlying5 Try.underlying9 (Kd.reads_of_C (by (with_reducible repeat (first | refine Kd.C_alloc ?_ _ | refine Kd.C_drewN ?_ _ | refine Kd.C_drew ?_)); exact HC1.out)))
  clear hK K
  refine norm_ (a' := ?_) ?_ ?_
  rotate_left
  · show Act.put _ (some 54) _ = _
    simp only [Act.put, List.setIfInBounds_toArray, List.set_cons_zero, List.set_cons_succ, i64_w, i32_w]
    rfl
  refine more1_ (S' := fun W => Sem.run Try.prog (convert 22 9 (.slice A1 c.length c1)) W = .ok (.string (strOfNums c)) W ∧ Sem.run Try.prog (convert 22 9 (.slice A3 c.length c3)) W = .ok (.string (strOfNums c)) W) (fun W h_ => h_.1) ?_ (fun hHeld => ?_)
  · exact ⟨(string_of_reads (P := Try.prog) (c := c1) Try.underlying22 Try.underlying5 Try.underlying9 (Kd.reads_of_C (by (with_reducible repeat (first | refine Kd.C_alloc ?_ _ | refine Kd.C_drewN ?_ _ | refine Kd.C_drew ?_)); exact HC1.out))), (string_of_reads (P := Try.prog) (c := c3) Try.underlying22 Try.underlying5 Try.underlying9 (Kd.reads_of_C (by (with_reducible repeat (first | refine Kd.C_alloc ?_ _ | refine Kd.C_drewN ?_ _ | refine Kd.C_drew ?_)); exact HC3.out)))⟩
  refine take_ (i := 9) (N := some 55) (v := ?_) (a' := ?_) #[true, true, true, true, true, true, true, true, true, true, false, false] rfl rfl (by kernel_rfl) (fun _ _ _ h => h) (Or.inl ⟨by rfl, ?_⟩) hHeld ?_ ?_
  rotate_left
  · intro w' hS_
    go_simp
    with_reducible rfl
  rotate_left
  · simp only [Act.put, List.setIfInBounds_toArray, List.set_cons_zero, List.set_cons_succ, i64_w, i32_w]
    rfl
  refine pure_ (i := 10) (N := some 56) (v := ?_) (a' := ?_) #[true, true, true, true, true, true, true, true, true, true, true, false] rfl rfl (by kernel_rfl) (fun _ _ _ h => h) (Or.inl ⟨by rfl, ?_⟩) ?_ ?_
  rotate_left
  · intro w'
    go_simp
    with_reducible rfl
  rotate_left
  · simp only [Act.put, List.setIfInBounds_toArray, List.set_cons_zero, List.set_cons_succ, i64_w, i32_w]
    rfl
  refine pure_ (i := 11) (N := some 57) (v := ?_) (a' := ?_) #[true, true, true, true, true, true, true, true, true, true, true, true] rfl rfl (by kernel_rfl) (fun _ _ _ h => h) (Or.inl ⟨by rfl, ?_⟩) ?_ ?_
  rotate_left
  · intro w'
    go_simp
    with_reducible rfl
  rotate_left
  · simp only [Act.put, List.setIfInBounds_toArray, List.set_cons_zero, List.set_cons_succ, i64_w, i32_w]
    rfl
  refine done_ (by kernel_rfl) ?_
  go_wp2_with (first
    | (go_at_call 31; (refine (wire_Put.calls A1 c1 c n [] 1 _ (by (with_reducible repeat (first | refine Kd.C_alloc ?_ _ | refine Kd.C_drewN ?_ _ | refine Kd.C_drew ?_)); exact HC1.out) hc1.out fput.out).mono ?_; rintro e w4 ⟨v, rfl, HR, HB⟩; obtain ⟨A4, c4, rfl, hc, HC⟩ := Kd.R_reads HR; have HC1 := Aside0.mk (Kd.C_below (by (with_reducible repeat (first | refine Kd.C_alloc ?_ _ | refine Kd.C_drewN ?_ _ | refine Kd.C_drew ?_)); exact HC1.out) HB); have HB0 := Aside0.mk (below_step (by repeat (first | exact HB0.out | apply below_alloc | apply pw_below_drewN | apply below_drew1 | apply below_drew)) HB); have HC4 := Aside0.mk HC; have hc4 := Aside0.mk hc; clear HR HB HC hc))
    | (go_at_call 35; (refine (wire_TextAt.calls A1 c1 c (l0.length : Int) s (c.length : Int) 0 _ (by (with_reducible repeat (first | refine Kd.C_alloc ?_ _ | refine Kd.C_drewN ?_ _ | refine Kd.C_drew ?_)); exact HC1.out) hc1.out fta.out).mono ?_; rintro e w' ⟨rfl, ⟨nd5, rfl⟩⟩))
    | (go_at_call 32; (refine (basculelaw01_awake.calls true _ faw.out).mono ?_; rintro e w8 ⟨rfl, HB⟩; have HC1 := Aside0.mk (Kd.C_below (by (with_reducible repeat (first | refine Kd.C_alloc ?_ _ | refine Kd.C_drewN ?_ _ | refine Kd.C_drew ?_)); exact HC1.out) HB); have HB0 := Aside0.mk (below_step (by repeat (first | exact HB0.out | apply below_alloc | apply pw_below_drewN | apply below_drew1 | apply below_drew)) HB); clear HB))
    | (go_at_call 27; (refine (basculeref01_Is.calls n false _ fis.out).mono ?_; rintro e w' ⟨rfl, ⟨nd9, rfl⟩⟩))
    )
  go_ret
  exact ⟨rfl, (by repeat (first | exact HB0.out | apply below_alloc | apply pw_below_drewN | apply below_drew1 | apply below_drew))⟩

set_option maxHeartbeats 8000000 in
set_option maxRecDepth 1000000 in
theorem texts_long (A0 : Option Addr) (c0 : Nat) (l0 : List Int) (s : ByteArray) (n : Int) (w : World) (HC0 : Aside0 (Kd.C (Kd.int .u8) w A0 l0.length l0)) (hc0 : l0.length ≤ c0) (hl : l0.length ≤ 2000)
    (hs0 : Aside0 (basculelaw01_small.f l0 = some true)) (h7 : decide ((70000 : Int) < (s.size : Int)) = false) (h6 : decide ((65535 : Int) < (s.size : Int)) = true)
    (fpt : Aside0 (wire_PutText.f l0 s = some ([], 2))) :
    Calls Try.prog 11 #[.slice A0 l0.length c0, .string s, .int .i64 n] w fun e w' => e = .returned (.bool true) ∧ Below w.heap.size w w' := by
  have faw : Aside0 (basculelaw01_awake.f = some true) := ⟨rfl⟩
  have HB0 := Aside0.mk (Below.refl w.heap.size w)
  go_enter Try.func11, Try.ntmps11
  go_wp2_with (first
    | (go_at_call 30; (refine (basculelaw01_small.calls A0 c0 l0 true _ HC0.out hc0 hs0.out).mono ?_; rintro e w' ⟨rfl, ⟨nd1, rfl⟩⟩))
    | (go_at_call 37; (refine (wire_PutText.calls A0 c0 l0 s [] 2 _ (by (with_reducible repeat (first | refine Kd.C_alloc ?_ _ | refine Kd.C_drewN ?_ _ | refine Kd.C_drew ?_)); exact HC0.out) hc0 fpt.out).mono ?_; rintro e w1 ⟨v, rfl, HR, HB⟩; obtain ⟨A1, c1, rfl, hc, HC⟩ := Kd.R_reads HR; have HC0 := Aside0.mk (Kd.C_below (by (with_reducible repeat (first | refine Kd.C_alloc ?_ _ | refine Kd.C_drewN ?_ _ | refine Kd.C_drew ?_)); exact HC0.out) HB); have HB0 := Aside0.mk (below_step (by repeat (first | exact HB0.out | apply below_alloc | apply pw_below_drewN | apply below_drew1 | apply below_drew)) HB); have HC1 := Aside0.mk HC; have hc1 := Aside0.mk hc; clear HR HB HC hc))
    | (go_at_call 32; (refine (basculelaw01_awake.calls true _ faw.out).mono ?_; rintro e w8 ⟨rfl, HB⟩; have HC0 := Aside0.mk (Kd.C_below (by (with_reducible repeat (first | refine Kd.C_alloc ?_ _ | refine Kd.C_drewN ?_ _ | refine Kd.C_drew ?_)); exact HC0.out) HB); have HB0 := Aside0.mk (below_step (by repeat (first | exact HB0.out | apply below_alloc | apply pw_below_drewN | apply below_drew1 | apply below_drew)) HB); clear HB))
    )
  go_ret
  exact ⟨rfl, (by repeat (first | exact HB0.out | apply below_alloc | apply pw_below_drewN | apply below_drew1 | apply below_drew))⟩

theorem texts_walk (a0 : Option Addr) (len0 cap0 : Nat) (z0 : List Int) (a1 : ByteArray) (a2 : Int) (w : World)
    (w0 : (a0 = none ∧ len0 = 0 ∧ cap0 = 0 ∧ z0 = []) ∨ ∃ x, a0 = some x ∧ len0 ≤ cap0 ∧ cap0 ≤ maxLen ∧ z0.length = cap0 ∧ (∀ i, i < z0.length → w.cell? (x.add i) = some (.int .u8 (z0.getD i 0))) ∧ ∀ n ∈ z0, (Lit.int .u8 n).wf = true) (y0 : len0 * 1 ≤ 140737488351232)
    (y1 : a1.size ≤ 140737488351232) (w2 : (Lit.int .i64 a2).wf = true) :
    Calls Try.prog 11 #[.slice a0 len0 cap0, .string a1, .int .i64 a2] w fun e w' => e = .returned (.bool true) ∧ Below w.heap.size w w' := by
  obtain ⟨l0, rfl, hr0, hm0, hw0, hc0⟩ := ReadsInt.ofRowC w0
  have HC0 := Aside0.mk (Kd.C_of_reads (d := (0 : Int)) (h1 := fun _ => rfl) hr0)
  have hb := bytes_of hw0
  by_cases h0 : l0.length ≤ 2000
  · have hs0 : Aside0 (basculelaw01_small.f l0 = some true) := ⟨small1 l0 true (by simp; omega)⟩
    by_cases h7 : (70000 : Int) < (a1.size : Int)
    · have h7' : decide ((70000 : Int) < (a1.size : Int)) = true := by simpa using h7
      have HB0 := Aside0.mk (Below.refl w.heap.size w)
      clear hr0 hm0 hw0 hb w0 h7
      go_enter Try.func11, Try.ntmps11
      go_wp2_with (first
            | (go_at_call 30; (refine (basculelaw01_small.calls a0 cap0 l0 true _ HC0.out hc0 hs0.out).mono ?_; rintro e w' ⟨rfl, ⟨nd1, rfl⟩⟩))
            )
      go_ret
      exact ⟨rfl, (by repeat (first | exact HB0.out | apply below_alloc | apply pw_below_drewN | apply below_drew1 | apply below_drew))⟩
    have h7' : decide ((70000 : Int) < (a1.size : Int)) = false := by simpa using h7
    have hcc : l0.length ≤ 140737488200000 ∧ a1.size ≤ 140737488351232 := ⟨by omega, by omega⟩
    by_cases hz : a1.size ≤ 65535
    · have hlen := lay_len l0 a1
      have hB := lay_bytes hb hz
      have fpt : Aside0 (wire_PutText.f l0 a1 = some (lay l0 a1, 0)) := ⟨by unfold wire_PutText.f; rw [if_pos hcc, if_pos hz]; rfl⟩
      have ftext : Aside0 (basculeref01_Text.f a1 = some ([((a1.size / 256 : Nat) : Int), ((a1.size % 256 : Nat) : Int)] ++ bytesOf a1)) := ⟨by unfold basculeref01_Text.f; rw [if_pos y1, show a1.size / 256 % 256 = a1.size / 256 from by omega]⟩
      have fboth : Aside0 (basculeref01_Both.f l0 ([((a1.size / 256 : Nat) : Int), ((a1.size % 256 : Nat) : Int)] ++ bytesOf a1) = some (lay l0 a1)) := ⟨by
        rw [both_f _ _ (by simp [bytesOf_length]; omega)]; unfold lay; simp⟩
      have fta : Aside0 (wire_TextAt.f (lay l0 a1) (l0.length : Int) = some (a1, ((lay l0 a1).length : Int), 0)) := ⟨by
        have := textat_lay l0 [] a1 hb hz (by intro x hx; cases hx) (by omega) (by simp)
        rw [List.append_nil] at this
        rw [this, hlen]; simp⟩
      by_cases hn : 0 ≤ a2 ∧ a2 ≤ 65535
      · have ftb : Aside0 (wire_TextAt.f (lay l0 a1 ++ [a2 / 256, a2 % 256]) (l0.length : Int) = some (a1, ((lay l0 a1).length : Int), 0)) := ⟨by
          rw [textat_lay l0 [a2 / 256, a2 % 256] a1 hb hz (bytes_two (by omega) (by omega)) (by omega) (by simp), hlen]; simp⟩
        exact texts_yes a0 cap0 l0 a1 a2 w HC0 hc0 h0 hs0 hz h7' (by simp; omega) _ _ _ fpt ftext fboth ⟨put_f _ a2 hn (by omega)⟩ fta ftb ⟨at_end _ a2 hB hn (by omega)⟩
      · exact texts_no a0 cap0 l0 a1 a2 w HC0 hc0 h0 hs0 hz h7' (by simp; omega) _ _ fpt ftext fboth ⟨put_no _ a2 hn⟩ fta ⟨by rw [is_f]; simp only [Option.some.injEq, decide_eq_false_iff_not]; exact hn⟩
    · exact texts_long a0 cap0 l0 a1 a2 w HC0 hc0 h0 hs0 h7' (by simp; omega) ⟨by unfold wire_PutText.f; rw [if_pos hcc, if_neg hz]⟩
  · have hs0 : Aside0 (basculelaw01_small.f l0 = some false) := ⟨small1 l0 false (by simp; omega)⟩
    have HB0 := Aside0.mk (Below.refl w.heap.size w)
    go_enter Try.func11, Try.ntmps11
    go_wp2_with (first
          | (go_at_call 30; (refine (basculelaw01_small.calls a0 cap0 l0 false _ HC0.out hc0 hs0.out).mono ?_; rintro e w' ⟨rfl, ⟨nd1, rfl⟩⟩))
          )
    go_ret
    exact ⟨rfl, (by repeat (first | exact HB0.out | apply below_alloc | apply pw_below_drewN | apply below_drew1 | apply below_drew))⟩
end Go.Proofs.Ytmbiofcibnpccaa.HandE

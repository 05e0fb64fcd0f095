/- Contracts of functions that the laws of layers 1 and 2 reach: Sum, Add, Whole, PutText, Text, TextAt, in closed form. -/
import Derived.Test.YtabjlanomebonaaPAx
import Derived.Test.YtabjlanomebonaaExtB
namespace Go.Proofs.Ytabjlanomebonaa.ExtC
open Go.RowKit Go.Proofs.YtabjlanomebonaaW.PrintWords Go.Proofs.YtabjlanomebonaaW.PrintLast Go.Proofs.YtabjlanomebonaaW.PrintMore Go.Proofs.Ytabjlanomebonaa.Ext
set_option linter.unusedVariables false
set_option linter.unusedSimpArgs false

/-- Are all bytes? -/
def Bytes (l : List Int) : Prop := ∀ x ∈ l, 0 ≤ x ∧ x < 256
instance (l : List Int) : Decidable (Bytes l) := by unfold Bytes; infer_instance
def crcN (s : Nat) (l : List Int) : Nat := l.foldl (fun s x => crcStep s x.toNat) s
theorem crcStep_lt (s x : Nat) (hs : s < 65536) (hx : x < 256) : crcStep s x < 65536 := by
  unfold crcStep
  have h : s ^^^ x < 65536 := Nat.xor_lt_two_pow (n := 16) (by omega) (by omega)
  generalize s ^^^ x = t at h
  have : ∀ n t, t < 65536 → citer n t < 65536 := by
    intro n
    induction n with
    | zero => intro t h; exact h
    | succ n ih => intro t h; exact ih _ (cbit_lt t h)
  exact this 8 t h
theorem crcN_lt (l : List Int) : ∀ s, s < 65536 → Bytes l → crcN s l < 65536 := by
  induction l with
  | nil => intro s h _; exact h
  | cons x l ih =>
    intro s h hb
    have hx := hb x (by simp)
    exact ih _ (crcStep_lt s x.toNat h (by omega)) (fun y hy => hb y (by simp [hy]))

theorem wrap64_id (x : Int) (h0 : -9223372036854775808 ≤ x) (h1 : x ≤ 9223372036854775807) : wrap64 x = x := by unfold wrap64; omega

theorem sum_l0 (l : List Int) (hb : Bytes l) (hl : l.length ≤ 140737488355328) (d : Nat) : ∀ (k : Nat) (i : Nat) (s : Nat), s < 65536 → i + d = l.length → d < k →
    PA.crc_Sum.l0 k s l (l.length : Int) (i : Int) = some ((crcN s (l.drop i) : Nat) : Int) := by
  induction d with
  | zero =>
    intro k i s hs hi hk
    obtain ⟨k, rfl⟩ : ∃ m, k = m + 1 := ⟨k - 1, by omega⟩
    simp only [PA.crc_Sum.l0]
    rw [if_neg (by omega), List.drop_eq_nil_of_le (by omega), wrap64_id _ (by omega) (by omega)]
    rfl
  | succ d ih =>
    intro k i s hs hi hk
    obtain ⟨k, rfl⟩ : ∃ m, k = m + 1 := ⟨k - 1, by omega⟩
    simp only [PA.crc_Sum.l0]
    have hx := hb (l[i]'(by omega)) (List.getElem_mem _)
    have hrd : rd l (i : Int) = l[i]'(by omega) := by simp [rd, List.getElem?_eq_getElem (show i < l.length by omega)]
    rw [if_pos (by omega), if_pos (by omega), if_pos (by omega), hrd]
    have hst : crc_step.f (s : Int) (l[i]'(by omega)) = some ((crcStep s (l[i]'(by omega)).toNat : Nat) : Int) := by
      unfold crc_step.f
      rw [if_pos ⟨by omega, by omega, by omega, by omega⟩]
      simp
    rw [hst]
    simp only [Option.bind_some]
    rw [wrap64_id _ (by omega) (by omega), show ((i : Int) + 1) = ((i + 1 : Nat) : Int) from by omega]
    rw [ih k (i + 1) _ (crcStep_lt s _ hs (by omega)) (by omega) (by omega)]
    rw [List.drop_eq_getElem_cons (show i < l.length by omega)]
    rfl

def crc_Sum.f (l0 : List Int) : Option Int := if Bytes l0 ∧ l0.length ≤ 140737488355328 then some ((crcN 65535 l0 : Nat) : Int) else none
theorem crc_Sum.calls (A0 : Option Addr) (c0 : Nat) (l0 : List Int) (r : Int) (w : World) (hr0 : Kd.C (Kd.int .u8) w A0 l0.length l0) (hc0 : l0.length ≤ c0) (h : crc_Sum.f l0 = some r) :
    Calls Try.prog 47 #[.slice A0 l0.length c0] w fun e w' => e = .returned (.int .i64 r) ∧ Drawn0 w w' := by
  unfold crc_Sum.f at h
  by_cases hc : Bytes l0 ∧ l0.length ≤ 140737488355328
  · rw [if_pos hc] at h
    obtain rfl := Option.some.inj h
    refine PA.crc_Sum.calls (l0.length + 1) A0 c0 l0 _ w hr0 hc0 ?_
    unfold PA.crc_Sum.f
    have := sum_l0 l0 hc.1 hc.2 l0.length (l0.length + 1) 0 65535 (by omega) (by omega) (by omega)
    simpa using this
  · rw [if_neg hc] at h
    cases h

theorem ret_bool {a b : Bool} (h : a = b) : Ending.returned (.bool a) = .returned (.bool b) := by rw [h]
theorem lit2_reads (W : World) (a b : Int) : ReadsInt (W.alloc (.cells #[.int .u8 a, .int .u8 b] 5)) .u8 (some ⟨W.heap.size, 0, none⟩) 2 [a, b] := by
  have h := own_lit W 0 5 .u8 [a, b] (by omega) (by simp)
  obtain ⟨A, c, e, hr⟩ := own_reads h
  injection e with e1 e2 e3
  subst e1
  exact hr

theorem below_alloc' {w W : World} (h : Below w.heap.size w W) (o : Obj) : Below w.heap.size w (W.alloc o) := h.alloc h.size o
theorem below_size' {w W : World} (h : Below w.heap.size w W) (o : Obj) : w.heap.size ≤ (W.alloc o).heap.size := by have := h.size; simp; omega

def crc_Add.f (l0 : List Int) : Option (List Int) := if Bytes l0 ∧ l0.length ≤ 140737488355000 then some (l0 ++ [((crcN 65535 l0 % 256 : Nat) : Int), ((crcN 65535 l0 / 256 : Nat) : Int)]) else none
set_option maxHeartbeats 8000000 in
set_option maxRecDepth 1000000 in
theorem crc_Add.calls (A0 : Option Addr) (c0 : Nat) (l0 : List Int) (r : List Int) (w : World) (hr0 : Kd.C (Kd.int .u8) w A0 l0.length l0) (hc0 : l0.length ≤ c0) (h : crc_Add.f l0 = some r) :
    Calls Try.prog 40 #[.slice A0 l0.length c0] w fun e w' => ∃ v0_ : Value, e = .returned (v0_) ∧ Kd.R (Kd.int .u8) 5 w' w.heap.size (fun _ => True) v0_ r ∧ Below w.heap.size w w' := by
  unfold crc_Add.f at h
  by_cases hc : Bytes l0 ∧ l0.length ≤ 140737488355000
  · rw [if_pos hc] at h
    obtain rfl := Option.some.inj h
    obtain ⟨hby, hl⟩ := hc
    have HC := Aside0.mk hr0
    have hlt := crcN_lt l0 65535 (by omega) hby
    have hsum : crc_Sum.f l0 = some ((crcN 65535 l0 : Nat) : Int) := by unfold crc_Sum.f; rw [if_pos ⟨hby, by omega⟩]
    obtain ⟨n, hn⟩ : ∃ n, n = crcN 65535 l0 := ⟨_, rfl⟩
    rw [← hn] at hlt hsum ⊢
    have Hsum := Aside0.mk hsum
    clear hn hsum hby
    obtain ⟨i0, hi, hz0, hz1, hz2⟩ := info_parts info5
    have hmk := fun W : World => run_make (P := Try.prog) W 22 5 i0 (.int .u8 0) Try.underlying22 hi hz0 .i64 .i64 (l0.length : Int) ((l0.length : Int) + 2) (by omega) (by omega) (by rw [hz2]; omega) (by omega)
    simp only [hz1, Nat.mul_one, Int.toNat_natCast] at hmk
    rw [show ((l0.length : Int) + 2).toNat = l0.length + 2 from by omega] at hmk
    have hR : Aside0 (ReadsInt w .u8 A0 l0.length l0) := ⟨Kd.reads_of_C hr0⟩
    clear hr0
    go_enter Try.func40, Try.ntmps40
    go_wp2_with (first | ((with_reducible refine gate_callee (f := 47) rfl ?_); (refine goesL_ (some 6) rfl rfl Try.func47 (by kernel_rfl) rfl #[.slice A0 l0.length c0] rfl (by simp only [List.map_toArray, List.map_cons, List.map_nil]; rfl) ?_; (with_reducible refine (crc_Sum.calls A0 c0 l0 n _ HC.out hc0 Hsum.out).mono ?_); rintro e w' ⟨rfl, ⟨nd, rfl⟩⟩; refine ⟨_, rfl, ?_⟩)) | ((with_reducible refine gate_builtin (b := .copy) (xs := #[.tmp 13, .tmp 14]) rfl ?_); (refine wp_copy_row rfl (.tmp 13) (.tmp 14) 22 22 rfl 5 Try.underlying22 (by kernel_rfl) .u8 w.heap.size A0 _ c0 l0 (madeCells #[Value.int IntKind.u8 0] (l0.length + 2)).toList rfl rfl ?c1 ?c2 ?c3 w ?c4 (Nat.le_refl _) ?_; (case c1 => exact heap_alloc_new (w.drewN nd) _); (case c2 => exact hR.out.below (below_alloc (pw_below_drewN (Below.refl _ _) _) _)); (case c3 => simp [size_madeCells]); (case c4 => exact below_alloc (pw_below_drewN (Below.refl _ _) _) _); intro w2 HG2 HB2)) | ((with_reducible refine gate_builtin (b := .append) (xs := #[.tmp 16, .tmp 22]) rfl ?_); (refine print_append_row (w0 := w) w.heap.size rfl (.tmp 16) (.tmp 22) 22 5 .u8 1 rfl Try.underlying22 info5 (by omega) _ l0 [(n : Int) % 256, (n : Int) / 256] _ 2 2 rfl rfl ?d1 ?d2 ?d3 ?d4 ?d5 ?_; (case d1 => exact pw_own_below (own_copied (cap := l0.length + 2) HG2.out (Nat.le_refl _) rfl (by simp [nums, size_madeCells]) (by omega) (by omega) (by simp [nums])) (below_alloc (Below.refl _ _) _)); (case d2 => exact lit2_reads _ _ _); (case d3 => exact below_alloc' HB2.out _); (case d4 => exact below_size' HB2.out _); (case d5 => omega); intro v3 w3 HO3 HB3 _ _)))
    go_ret
    refine ⟨_, rfl, Kd.R_of_own ?_ (fun _ _ => trivial), HB3⟩
    exact HO3
  · rw [if_neg hc] at h
    cases h

def crc_Good.f (l0 : List Int) : Option Bool := if Bytes l0 ∧ l0.length ≤ 140737488355328 then some (decide (2 ≤ l0.length ∧ crcN 65535 l0 = 0)) else none
set_option maxHeartbeats 8000000 in
set_option maxRecDepth 1000000 in
theorem crc_Good.calls (A0 : Option Addr) (c0 : Nat) (l0 : List Int) (r : Bool) (w : World) (hr0 : Kd.C (Kd.int .u8) w A0 l0.length l0) (hc0 : l0.length ≤ c0) (h : crc_Good.f l0 = some r) :
    Calls Try.prog 48 #[.slice A0 l0.length c0] w fun e w' => e = .returned (.bool r) ∧ Drawn0 w w' := by
  unfold crc_Good.f at h
  by_cases hc : Bytes l0 ∧ l0.length ≤ 140737488355328
  · rw [if_pos hc] at h
    obtain rfl := Option.some.inj h
    have HC := Aside0.mk hr0
    have hsum : Aside0 (crc_Sum.f l0 = some ((crcN 65535 l0 : Nat) : Int)) := by unfold crc_Sum.f; rw [if_pos hc]; exact ⟨rfl⟩
    generalize crcN 65535 l0 = n at hsum
    clear hr0 hc
    by_cases h2 : 2 ≤ l0.length
    · have h2' : decide ((2 : Int) ≤ (l0.length : Int)) = true := by simp; omega
      go_enter Try.func48, Try.ntmps48
      go_wp2_with (go_at_call 47; refine (crc_Sum.calls A0 c0 l0 n _ HC.out hc0 hsum.out).mono ?_; rintro e w' ⟨rfl, ⟨nd, rfl⟩⟩)
      go_ret
      refine ⟨ret_bool ?_, Drawn0.step (Drawn0.refl _) _⟩
      rw [Bool.eq_iff_iff]
      simp [h2]
    · have h2' : decide ((2 : Int) ≤ (l0.length : Int)) = false := by simp; omega
      go_enter Try.func48, Try.ntmps48
      go_wp2
      go_ret
      exact ⟨ret_bool rfl, Drawn0.refl _⟩
  · rw [if_neg hc] at h
    cases h

def crc_Whole.f (l0 : List Int) : Option (List Int × Int) :=
  if Bytes l0 ∧ l0.length ≤ 140737488355000 then (if 2 ≤ l0.length ∧ crcN 65535 l0 = 0 then some (l0.take (l0.length - 2), 0) else some ([], 20)) else none
set_option maxHeartbeats 8000000 in
set_option maxRecDepth 1000000 in
theorem crc_Whole.calls (A0 : Option Addr) (c0 : Nat) (l0 : List Int) (r1 : List Int) (r2 : Int) (w : World) (hr0 : Kd.C (Kd.int .u8) w A0 l0.length l0) (hc0 : l0.length ≤ c0) (h : crc_Whole.f l0 = some (r1, r2)) :
    Calls Try.prog 41 #[.slice A0 l0.length c0] w fun e w' => ∃ v0_ : Value, e = .returned (.tuple #[v0_, .int .i64 r2]) ∧ Kd.R (Kd.int .u8) 5 w' w.heap.size (fun _ => True) v0_ r1 ∧ Below w.heap.size w w' := by
  unfold crc_Whole.f at h
  by_cases hc : Bytes l0 ∧ l0.length ≤ 140737488355000
  · rw [if_pos hc] at h
    have HC := Aside0.mk hr0
    have hl := hc.2
    by_cases hg : 2 ≤ l0.length ∧ crcN 65535 l0 = 0
    · rw [if_pos hg] at h
      simp only [Option.some.injEq, Prod.mk.injEq] at h
      obtain ⟨rfl, rfl⟩ := h
      have hgood : Aside0 (crc_Good.f l0 = some true) := by unfold crc_Good.f; rw [if_pos ⟨hc.1, by omega⟩]; exact ⟨by simp [hg.1, hg.2]⟩
      have h2 := hg.1
      clear hg hc hr0
      obtain ⟨i0, hi, hz0, hz1, hz2⟩ := info_parts info5
      obtain ⟨hcut, hcutr, hcutl⟩ := print_take_int (P := Try.prog) (k := .u8) 22 5 Try.underlying22 hi hz1 A0 c0 l0 ((l0.length : Int) - 2) (by omega) (by omega) hc0
      have hRc := Aside0.mk (hcutr w (Kd.reads_of_C HC.out))
      have e2 : ((l0.length : Int) - 2).toNat = l0.length - 2 := by omega
      rw [e2] at hcut hRc hcutl
      clear hcutr e2
      obtain ⟨ys, hys⟩ : ∃ ys, ys = l0.take (l0.length - 2) := ⟨_, rfl⟩
      rw [← hys] at hcut hRc hcutl ⊢
      have hyl : ys.length ≤ l0.length := by rw [hys, List.length_take]; omega
      clear hys
      go_enter Try.func41, Try.ntmps41
      go_wp2_with (first | (go_at_call 48; refine (crc_Good.calls A0 c0 l0 true _ HC.out hc0 hgood.out).mono ?_; rintro e w' ⟨rfl, ⟨nd, rfl⟩⟩) | ((with_reducible refine gate_builtin (b := .append) (xs := #[.const (.slice none 0 0), .tmp 11]) rfl ?_); (refine print_append_row (w0 := w) w.heap.size rfl (.const (.slice none 0 0)) (.tmp 11) 22 5 .u8 1 rfl Try.underlying22 info5 (by omega) (.slice none 0 0) [] ys A0 ys.length c0 rfl rfl ?d1 ?d2 ?d3 ?d4 ?d5 ?_; (case d1 => exact own_nil _ _ _ _); (case d2 => exact hRc.out); (case d3 => exact pw_below_drewN (Below.refl _ _) _); (case d4 => exact Nat.le_refl _); (case d5 => simp; omega); intro v3 w3 HO3 HB3 _ _)))
      go_ret2
      exact ⟨_, rfl, Kd.R_of_own HO3 (fun _ _ => trivial), HB3⟩
    · rw [if_neg hg] at h
      simp only [Option.some.injEq, Prod.mk.injEq] at h
      obtain ⟨rfl, rfl⟩ := h
      have hgood : Aside0 (crc_Good.f l0 = some false) := by unfold crc_Good.f; rw [if_pos ⟨hc.1, by omega⟩]; exact ⟨by simp only [Option.some.injEq, decide_eq_false_iff_not]; exact hg⟩
      clear hg hc hr0
      go_enter Try.func41, Try.ntmps41
      go_wp2_with (go_at_call 48; refine (crc_Good.calls A0 c0 l0 false _ HC.out hc0 hgood.out).mono ?_; rintro e w' ⟨rfl, ⟨nd, rfl⟩⟩)
      go_ret2
      exact ⟨_, rfl, Kd.R_nil _ _ _ _ _, pw_below_drewN (Below.refl _ _) _⟩
  · rw [if_neg hc] at h
    cases h

theorem bytes_rd {l : List Int} (hb : Bytes l) (i : Int) : 0 ≤ rd l i ∧ rd l i < 256 := by
  unfold rd
  rcases Nat.lt_or_ge i.toNat l.length with h | h
  · rw [List.getD_eq_getElem?_getD, List.getElem?_eq_getElem h]
    exact hb _ (List.getElem_mem h)
  · rw [List.getD_eq_getElem?_getD, List.getElem?_eq_none h]
    simp
theorem join_bytes (x y : Int) (hx : 0 ≤ x ∧ x < 256) (hy : 0 ≤ y ∧ y < 256) : Go.bits .or .i64 (wrap64 ((wrap64 x) * 256)) (wrap64 y) = 256 * x + y := by
  rw [wrap64_id x (by omega) (by omega), wrap64_id (x * 256) (by omega) (by omega), wrap64_id y (by omega) (by omega)]
  have hk : ∀ n : Int, 0 ≤ n → n < 2 ^ 63 → IntKind.i64.wrap n = n := fun n h0 h1 => by rw [IntKind.wrap_i64]; omega
  have h := bits_join .i64 63 (by decide) hk 8 (x * 256) y (by omega) (by omega) (by omega) (by omega) (by omega) (by omega)
  rw [h]; omega

def wire_At.f (l0 : List Int) (a1 : Int) : Option (Int × Int) :=
  if Bytes l0 ∧ l0.length ≤ 140737488351232 ∧ -9223372036854775808 ≤ a1 ∧ a1 ≤ 9223372036854775807 then (if a1 < 0 then some (0, 1) else if a1 > (l0.length : Int) - 2 then some (0, 7) else some (256 * rd l0 a1 + rd l0 (a1 + 1), 0)) else none
theorem wire_At.calls (A0 : Option Addr) (c0 : Nat) (l0 : List Int) (a1 : Int) (r1 : Int) (r2 : Int) (w : World) (hr0 : Kd.C (Kd.int .u8) w A0 l0.length l0) (hc0 : l0.length ≤ c0) (h : wire_At.f l0 a1 = some (r1, r2)) :
    Calls Try.prog 46 #[.slice A0 l0.length c0, .int .i64 a1] w fun e w' => e = .returned (.tuple #[.int .i64 r1, .int .i64 r2]) ∧ Drawn0 w w' := by
  unfold wire_At.f at h
  by_cases hc : Bytes l0 ∧ l0.length ≤ 140737488351232 ∧ -9223372036854775808 ≤ a1 ∧ a1 ≤ 9223372036854775807
  · rw [if_pos hc] at h
    obtain ⟨hb, hl, h0, h1⟩ := hc
    refine PA.wire_At.calls A0 c0 l0 a1 r1 r2 w hr0 hc0 ?_
    rw [← h]
    unfold PA.wire_At.f
    by_cases ha : a1 < 0
    · rw [if_pos ha, if_pos ha]
    · rw [if_neg ha, if_neg ha, wrap64_id _ (by omega) (by omega)]
      by_cases hg : a1 > (l0.length : Int) - 2
      · rw [if_pos hg, if_pos hg]
      · rw [if_neg hg, if_neg hg, wrap64_id (a1 + 1) (by omega) (by omega), if_pos (by omega), if_pos (by omega), if_pos (by omega), if_pos (by omega), join_bytes _ _ (bytes_rd hb _) (bytes_rd hb _)]
  · rw [if_neg hc] at h
    cases h

end Go.Proofs.Ytabjlanomebonaa.ExtC

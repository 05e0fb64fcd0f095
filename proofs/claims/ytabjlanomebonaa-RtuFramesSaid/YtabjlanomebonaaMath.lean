/- Plain laws on the sums of layer 2: a step is linear, what the loops of the references come to. -/
import Derived.Test.YtabjlanomebonaaPBx9
namespace Go.Proofs.Ytabjlanomebonaa.Math
open Go.RowKit Go.Proofs.Ytabjlanomebonaa.PB Go.Proofs.YtabjlanomebonaaW.PrintWords Go.Proofs.YtabjlanomebonaaW.PrintLast Go.Proofs.Ytabjlanomebonaa.Ext Go.Proofs.Ytabjlanomebonaa.ExtC
set_option linter.unusedVariables false

theorem xor_half (a b : Nat) : a ^^^ b = 2 * ((a / 2) ^^^ (b / 2)) + (if a % 2 = b % 2 then 0 else 1) := by
  have h1 : (a ^^^ b) / 2 = (a / 2) ^^^ (b / 2) := by
    have := Nat.xor_div_two_pow (a := a) (b := b) (n := 1)
    simpa using this
  have h2 : (a ^^^ b) % 2 = (if a % 2 = b % 2 then 0 else 1) := by
    have := Nat.xor_mod_two_pow (a := a) (b := b) (n := 1)
    simp only [Nat.pow_one] at this
    rw [this]
    rcases Nat.mod_two_eq_zero_or_one a with h | h <;> rcases Nat.mod_two_eq_zero_or_one b with h' | h' <;> rw [h, h'] <;> rfl
  omega

theorem tdiv2 (a : Nat) (h : a < 4611686018427387904) : wrap64 (Int.tdiv (a : Int) 2) = ((a / 2 : Nat) : Int) := by
  rw [Int.tdiv_eq_ediv_of_nonneg (by omega), wrap64_id _ (by omega) (by omega)]; omega
theorem tmod2 (a : Nat) : Int.tmod (a : Int) 2 = ((a % 2 : Nat) : Int) := by
  rw [Int.tmod_eq_emod_of_nonneg (by omega)]; omega

theorem wsum (o w : Nat) (h : o < w) (hw : w ≤ 1099511627776) : wrap64 ((o : Int) + (w : Int)) = ((o + w : Nat) : Int) := by
  rw [wrap64_id _ (by omega) (by omega)]; omega
theorem wdbl (w : Nat) (hw : w ≤ 1099511627776) : wrap64 (2 * (w : Int)) = ((2 * w : Nat) : Int) := by
  rw [wrap64_id _ (by omega) (by omega)]; omega
theorem xor_l0 (n : Nat) : ∀ (k a b out w : Nat), a < 2 ^ n → b < 2 ^ n → 2 * n + 2 ≤ k → w * 2 ^ n ≤ 1099511627776 → out < w → n ≤ 40 →
    basculeref02_Xor.l0 k (a : Int) (b : Int) (out : Int) (w : Int) = some ((out + w * (a ^^^ b) : Nat) : Int) := by
  induction n with
  | zero =>
    intro k a b out w ha hb hk hw ho hn
    obtain ⟨k, rfl⟩ : ∃ m, k = m + 2 := ⟨k - 2, by omega⟩
    obtain rfl : a = 0 := by simpa using ha
    obtain rfl : b = 0 := by simpa using hb
    simp [basculeref02_Xor.l0, basculeref02_Xor.j1]
  | succ n ih =>
    intro k a b out w ha hb hk hw ho hn
    obtain ⟨k, rfl⟩ : ∃ m, k = m + 2 := ⟨k - 2, by omega⟩
    have hp : 2 ^ (n + 1) = 2 * 2 ^ n := by rw [Nat.pow_succ]; omega
    have hpn : 2 ^ n ≤ 2 ^ 40 := Nat.pow_le_pow_right (by omega) (by omega)
    rw [show (2 : Nat) ^ 40 = 1099511627776 from rfl] at hpn
    by_cases h0 : a = 0 ∧ b = 0
    · obtain ⟨rfl, rfl⟩ := h0
      simp [basculeref02_Xor.l0, basculeref02_Xor.j1]
    · have hstep : basculeref02_Xor.l0 (k + 2) (a : Int) (b : Int) (out : Int) (w : Int) = basculeref02_Xor.j1 (k + 1) (a : Int) (b : Int) (out : Int) (w : Int) true := by
        simp only [basculeref02_Xor.l0]
        by_cases ha0 : (a : Int) > 0
        · rw [if_pos ha0]
        · rw [if_neg ha0]
          have : decide ((b : Int) > 0) = true := by simp; omega
          rw [this]
      rw [hstep]
      simp only [basculeref02_Xor.j1]
      rw [hp] at hw ha hb
      rw [if_pos trivial, tmod2, tmod2, tdiv2 a (by omega), tdiv2 b (by omega)]
      have e2 : w * (2 * 2 ^ n) = 2 * w * 2 ^ n := by rw [← Nat.mul_assoc, Nat.mul_comm w 2]
      rw [e2] at hw
      have hw1 : 2 * w ≤ 2 * w * 2 ^ n := Nat.le_mul_of_pos_right _ (Nat.two_pow_pos n)
      have hwb : w ≤ 1099511627776 := by omega
      rw [wdbl w hwb]
      have hx := xor_half a b
      have e3 : w * (a ^^^ b) = 2 * w * ((a / 2) ^^^ (b / 2)) + w * (if a % 2 = b % 2 then 0 else 1) := by
        rw [hx, Nat.mul_add, ← Nat.mul_assoc, Nat.mul_comm w 2]
      by_cases he : a % 2 = b % 2
      · rw [if_pos (by omega)]
        rw [ih k (a / 2) (b / 2) out (2 * w) (by omega) (by omega) (by omega) hw (by omega) (by omega)]
        rw [e3, if_pos he]
        simp
      · rw [if_neg (by omega)]
        rw [wsum out w ho hwb, ih k (a / 2) (b / 2) (out + w) (2 * w) (by omega) (by omega) (by omega) hw (by omega) (by omega)]
        rw [e3, if_neg he, Nat.mul_one]
        have e4 : out + w + 2 * w * (a / 2 ^^^ b / 2) = out + (2 * w * (a / 2 ^^^ b / 2) + w) := by ac_rfl
        rw [e4]
theorem xor_f (k a b : Nat) (ha : a < 65536) (hb : b < 65536) (hk : 34 ≤ k) : basculeref02_Xor.f k (a : Int) (b : Int) = some ((a ^^^ b : Nat) : Int) := by
  unfold basculeref02_Xor.f
  have h16 : (2 : Nat) ^ 16 = 65536 := by decide
  have := xor_l0 16 k a b 0 1 (by rw [h16]; exact ha) (by rw [h16]; exact hb) (by omega) (by rw [h16]; omega) (by omega) (by omega)
  rw [Nat.zero_add, Nat.one_mul, Int.natCast_zero, Int.natCast_one] at this
  exact this

/-! ### a step is linear -/
theorem cbit_xor (a b : Nat) : cbit (a ^^^ b) = cbit a ^^^ cbit b := by
  unfold cbit
  have h1 : (a ^^^ b) / 2 = (a / 2) ^^^ (b / 2) := by
    have := Nat.xor_div_two_pow (a := a) (b := b) (n := 1)
    simpa using this
  have h2 : (a ^^^ b) % 2 = (a % 2) ^^^ (b % 2) := by
    have := Nat.xor_mod_two_pow (a := a) (b := b) (n := 1)
    simpa using this
  have h3 : 40961 * ((a % 2) ^^^ (b % 2)) = (40961 * (a % 2)) ^^^ (40961 * (b % 2)) := by
    rcases Nat.mod_two_eq_zero_or_one a with h | h <;> rcases Nat.mod_two_eq_zero_or_one b with h' | h' <;> rw [h, h'] <;> decide
  rw [h1, h2, h3]
  ac_rfl
theorem citer_xor (n : Nat) : ∀ a b, citer n (a ^^^ b) = citer n a ^^^ citer n b := by
  induction n with
  | zero => intro a b; rfl
  | succ n ih => intro a b; simp only [citer]; rw [cbit_xor, ih]
theorem citer_zero (n : Nat) : citer n 0 = 0 := by
  induction n with
  | zero => rfl
  | succ n ih => simp only [citer]; rw [show cbit 0 = 0 from rfl, ih]
theorem cbit_inj (a : Nat) (h : a < 65536) (h0 : cbit a = 0) : a = 0 := by
  unfold cbit at h0
  have h1 : a / 2 = 40961 * (a % 2) := by
    have e : (a / 2 ^^^ 40961 * (a % 2)) ^^^ 40961 * (a % 2) = a / 2 := by rw [Nat.xor_assoc, Nat.xor_self, Nat.xor_zero]
    rw [h0, Nat.zero_xor] at e
    exact e.symm
  omega
theorem citer_inj (n : Nat) : ∀ a, a < 65536 → citer n a = 0 → a = 0 := by
  induction n with
  | zero => intro a _ h; exact h
  | succ n ih => intro a h h0; exact cbit_inj a h (ih _ (cbit_lt a h) h0)
theorem citer_lt (n : Nat) : ∀ a, a < 65536 → citer n a < 65536 := by
  induction n with
  | zero => intro a h; exact h
  | succ n ih => intro a h; exact ih _ (cbit_lt a h)
/-- The low zeros go out. -/
theorem citer_shift (n : Nat) : ∀ m, citer n (m * 2 ^ n) = m := by
  induction n with
  | zero => intro m; simp [citer]
  | succ n ih =>
    intro m
    simp only [citer]
    have e : cbit (m * 2 ^ (n + 1)) = m * 2 ^ n := by
      unfold cbit
      have : m * 2 ^ (n + 1) = 2 * (m * 2 ^ n) := by rw [Nat.pow_succ]; ac_rfl
      rw [this]
      have h1 : 2 * (m * 2 ^ n) / 2 = m * 2 ^ n := by omega
      have h2 : 2 * (m * 2 ^ n) % 2 = 0 := by omega
      rw [h1, h2]; simp
    rw [e, ih]

theorem xor_zero_eq (a b : Nat) (h : a ^^^ b = 0) : a = b := by
  have e : (a ^^^ b) ^^^ b = a := by rw [Nat.xor_assoc, Nat.xor_self, Nat.xor_zero]
  rw [h, Nat.zero_xor] at e
  exact e.symm
theorem xor_mul256 (n x y : Nat) (hx : x < 256) : n ^^^ x = y * 256 ↔ n = y * 256 + x := by
  have h1 : (n ^^^ x) / 256 = n / 256 := by
    have := Nat.xor_div_two_pow (a := n) (b := x) (n := 8)
    rw [show (2 : Nat) ^ 8 = 256 from rfl, Nat.div_eq_of_lt hx, Nat.xor_zero] at this
    exact this
  have h2 : (n ^^^ x) % 256 = (n % 256) ^^^ x := by
    have := Nat.xor_mod_two_pow (a := n) (b := x) (n := 8)
    rw [show (2 : Nat) ^ 8 = 256 from rfl, Nat.mod_eq_of_lt hx] at this
    exact this
  constructor
  · intro h
    have e1 : n / 256 = y := by rw [← h1, h]; omega
    have e2 : (n % 256) ^^^ x = 0 := by rw [← h2, h]; omega
    have e3 := xor_zero_eq _ _ e2
    omega
  · intro h
    have e1 : n / 256 = y := by omega
    have e2 : n % 256 = x := by omega
    rw [e2, Nat.xor_self] at h2
    omega
theorem crcN_append (l m : List Int) (s : Nat) : crcN s (l ++ m) = crcN (crcN s l) m := List.foldl_append
theorem crcN_two (s : Nat) (x y : Int) : crcN s [x, y] = crcStep (crcStep s x.toNat) y.toNat := rfl
theorem crc_two_zero (n x y : Nat) (hn : n < 65536) (hx : x < 256) (hy : y < 256) : crcStep (crcStep n x) y = 0 ↔ n = y * 256 + x := by
  unfold crcStep
  have hnx : n ^^^ x < 65536 := Nat.xor_lt_two_pow (n := 16) (by omega) (by omega)
  have hy8 : citer 8 (y * 256) = y := citer_shift 8 y
  constructor
  · intro h
    have hl : citer 8 (n ^^^ x) ^^^ y < 65536 := Nat.xor_lt_two_pow (n := 16) (citer_lt 8 _ hnx) (by omega)
    have e1 := xor_zero_eq _ _ (citer_inj 8 _ hl h)
    have e2 : citer 8 ((n ^^^ x) ^^^ (y * 256)) = 0 := by rw [citer_xor, e1, hy8, Nat.xor_self]
    have hl2 : (n ^^^ x) ^^^ (y * 256) < 65536 := Nat.xor_lt_two_pow (n := 16) hnx (by omega)
    have e3 := xor_zero_eq _ _ (citer_inj 8 _ hl2 e2)
    exact (xor_mul256 n x y hx).1 e3
  · intro h
    rw [(xor_mul256 n x y hx).2 h, hy8, Nat.xor_self]
    rfl
/-- What Add makes has the sum 0. -/
theorem crcN_add (l : List Int) (hb : Bytes l) : crcN 65535 (l ++ [((crcN 65535 l % 256 : Nat) : Int), ((crcN 65535 l / 256 : Nat) : Int)]) = 0 := by
  have hlt := crcN_lt l 65535 (by omega) hb
  rw [crcN_append, crcN_two, Int.toNat_natCast, Int.toNat_natCast]
  exact (crc_two_zero _ _ _ hlt (by omega) (by omega)).2 (by omega)
theorem bytes_add (l : List Int) (hb : Bytes l) (n : Nat) (hn : n < 65536) : Bytes (l ++ [((n % 256 : Nat) : Int), ((n / 256 : Nat) : Int)]) := by
  intro x hx
  simp only [List.mem_append, List.mem_cons, List.not_mem_nil, or_false] at hx
  rcases hx with h | rfl | rfl
  · exact hb x h
  · omega
  · omega
/-- What has the sum 0 is what Add makes. -/
theorem crcN_ends (l : List Int) (hb : Bytes l) (h2 : 2 ≤ l.length) (h0 : crcN 65535 l = 0) :
    l = l.take (l.length - 2) ++ [((crcN 65535 (l.take (l.length - 2)) % 256 : Nat) : Int), ((crcN 65535 (l.take (l.length - 2)) / 256 : Nat) : Int)] := by
  obtain ⟨p, x, y, rfl⟩ : ∃ p x y, l = p ++ [x, y] := by
    have hl : l.take (l.length - 2) ++ l.drop (l.length - 2) = l := List.take_append_drop _ _
    have hd : (l.drop (l.length - 2)).length = 2 := by rw [List.length_drop]; omega
    match hq : l.drop (l.length - 2), hd with
    | [x, y], _ => exact ⟨_, x, y, by rw [← hq]; exact hl.symm⟩
  have ht : (p ++ [x, y]).take ((p ++ [x, y]).length - 2) = p := by simp
  rw [ht]
  have hbp : Bytes p := fun z hz => hb z (by simp [hz])
  have hx := hb x (by simp)
  have hy := hb y (by simp)
  have hlt := crcN_lt p 65535 (by omega) hbp
  rw [crcN_append, crcN_two] at h0
  have e := (crc_two_zero _ _ _ hlt (by omega) (by omega)).1 h0
  have e1 : ((crcN 65535 p % 256 : Nat) : Int) = x := by omega
  have e2 : ((crcN 65535 p / 256 : Nat) : Int) = y := by omega
  rw [e1, e2]

theorem wf8 {x : Int} (h : (Lit.int .u8 x).wf = true) : 0 ≤ x ∧ x < 256 := by
  have this := h
  simp only [Lit.wf, Bool.and_eq_true, decide_eq_true_eq] at this
  rw [show IntKind.u8.min = 0 from rfl, show IntKind.u8.max = 255 from rfl] at this
  omega
theorem wf64 {x : Int} (h : (Lit.int .i64 x).wf = true) : -9223372036854775808 ≤ x ∧ x ≤ 9223372036854775807 := by
  have this := h
  simp only [Lit.wf, Bool.and_eq_true, decide_eq_true_eq] at this
  rw [show IntKind.i64.min = -9223372036854775808 from rfl, show IntKind.i64.max = 9223372036854775807 from rfl] at this
  exact this
theorem bytes_of {l : List Int} (h : ∀ x ∈ l, (Lit.int .u8 x).wf = true) : Bytes l := fun x hx => wf8 (h x hx)
theorem sum_f {l : List Int} (hb : Bytes l) (hl : l.length ≤ 140737488355328) : crc_Sum.f l = some ((crcN 65535 l : Nat) : Int) := by
  unfold crc_Sum.f; rw [if_pos ⟨hb, hl⟩]
theorem good_f {l : List Int} (hb : Bytes l) (hl : l.length ≤ 140737488355328) : crc_Good.f l = some (decide (2 ≤ l.length ∧ crcN 65535 l = 0)) := by
  unfold crc_Good.f; rw [if_pos ⟨hb, hl⟩]
theorem add_f {l : List Int} (hb : Bytes l) (hl : l.length ≤ 140737488355000) : crc_Add.f l = some (l ++ [((crcN 65535 l % 256 : Nat) : Int), ((crcN 65535 l / 256 : Nat) : Int)]) := by
  unfold crc_Add.f; rw [if_pos ⟨hb, hl⟩]
theorem whole_yes {l : List Int} (hb : Bytes l) (hl : l.length ≤ 140737488355000) (h : 2 ≤ l.length ∧ crcN 65535 l = 0) : crc_Whole.f l = some (l.take (l.length - 2), 0) := by
  unfold crc_Whole.f; rw [if_pos ⟨hb, hl⟩, if_pos h]
theorem whole_no {l : List Int} (hb : Bytes l) (hl : l.length ≤ 140737488355000) (h : ¬ (2 ≤ l.length ∧ crcN 65535 l = 0)) : crc_Whole.f l = some ([], 20) := by
  unfold crc_Whole.f; rw [if_pos ⟨hb, hl⟩, if_neg h]
theorem rd_nat {l : List Int} (i : Nat) (h : i < l.length) : rd l (i : Int) = l[i] := by simp [rd, List.getElem?_eq_getElem h]
theorem crcN_snoc (s : Nat) (l : List Int) (x : Int) : crcN s (l ++ [x]) = crcStep (crcN s l) x.toNat := by rw [crcN_append]; rfl
theorem take_snoc_ (l : List Int) (i : Nat) (h : i < l.length) : l.take (i + 1) = l.take i ++ [l[i]] := by rw [List.take_succ_eq_append_getElem h]
theorem crcStep_xor (s t x y : Nat) : crcStep s x ^^^ crcStep t y = crcStep (s ^^^ t) (x ^^^ y) := by
  unfold crcStep
  rw [← citer_xor]
  congr 1
  ac_rfl
end Go.Proofs.Ytabjlanomebonaa.Math

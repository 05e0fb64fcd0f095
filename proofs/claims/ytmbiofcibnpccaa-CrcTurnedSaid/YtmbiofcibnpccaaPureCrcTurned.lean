/- The plain law of CrcTurned: bits turned in a window of 16 are seen by the sum. The sum is taken bit by bit (ser). -/
import Derived.Test.YtmbiofcibnpccaaPAllx2
import Derived.Test.YtmbiofcibnpccaaMath
import Derived.Test.YtmbiofcibnpccaaMathP
namespace Go.Proofs.Ytmbiofcibnpccaa.Pure
open Go.RowKit Go.Proofs.Ytmbiofcibnpccaa.PAll Go.Proofs.YtmbiofcibnpccaaW.PrintWords Go.Proofs.YtmbiofcibnpccaaW.PrintLast Go.Proofs.Ytmbiofcibnpccaa.Ext Go.Proofs.Ytmbiofcibnpccaa.ExtC Go.Proofs.Ytmbiofcibnpccaa.ExtD Go.Proofs.Ytmbiofcibnpccaa.Math Go.Proofs.Ytmbiofcibnpccaa.MathP
set_option linter.unusedVariables false

/-- The sum bit by bit. -/
def ser (s : Nat) : List Int → Nat
  | [] => s
  | b :: t => ser (cbit (s ^^^ b.toNat)) t
def val : List Int → Nat
  | [] => 0
  | b :: t => b.toNat + 2 * val t
theorem ser_append (l m : List Int) : ∀ s, ser s (l ++ m) = ser (ser s l) m := by
  induction l with
  | nil => intro s; rfl
  | cons b t ih => intro s; exact ih _
theorem bit_nat {b : Int} (h : b = 0 ∨ b = 1) : b.toNat = 0 ∨ b.toNat = 1 := by omega
theorem xor_two (b v : Nat) (h : b = 0 ∨ b = 1) : b + 2 * v = b ^^^ (2 * v) := by
  have := Nat.two_pow_add_eq_or_of_lt (i := 1) (b := b) (by omega) v
  rw [xor_half]
  rcases h with rfl | rfl
  · simp
  · simp; omega
theorem cbit_two (v : Nat) : cbit (2 * v) = v := by
  unfold cbit
  rw [show 2 * v / 2 = v from by omega, show 2 * v % 2 = 0 from by omega]
  simp
theorem ser_val : ∀ (l : List Int) (s : Nat), Bits l → ser s l = citer l.length (s ^^^ val l)
  | [], s, _ => by simp [ser, val, citer]
  | b :: t, s, h => by
    have hb := bit_nat (h b (List.mem_cons_self))
    have ih := ser_val t (cbit (s ^^^ b.toNat)) (fun x hx => h x (List.mem_cons_of_mem _ hx))
    show ser (cbit (s ^^^ b.toNat)) t = citer t.length (cbit (s ^^^ val (b :: t)))
    rw [ih]
    congr 1
    show _ = cbit (s ^^^ (b.toNat + 2 * val t))
    rw [xor_two _ _ hb, ← Nat.xor_assoc]
    generalize s ^^^ b.toNat = u
    rw [cbit_xor u, cbit_two]
theorem val_lt : ∀ (l : List Int), Bits l → val l < 2 ^ l.length
  | [], _ => by simp [val]
  | b :: t, h => by
    have hb := bit_nat (h b (List.mem_cons_self))
    have ih := val_lt t (fun x hx => h x (List.mem_cons_of_mem _ hx))
    show b.toNat + 2 * val t < 2 ^ (t.length + 1)
    rw [Nat.pow_succ]
    omega
theorem ser_lt : ∀ (l : List Int) (s : Nat), Bits l → s < 65536 → ser s l < 65536
  | [], s, _, h => h
  | b :: t, s, hb, h => by
    have hb' := bit_nat (hb b (List.mem_cons_self))
    exact ser_lt t _ (fun x hx => hb x (List.mem_cons_of_mem _ hx)) (cbit_lt _ (Nat.xor_lt_two_pow (n := 16) h (by omega)))
theorem cbit_one (a b : Nat) (ha : a < 65536) (hb : b < 65536) (h : cbit a = cbit b) : a = b := by
  refine xor_zero_eq a b (cbit_inj _ (Nat.xor_lt_two_pow (n := 16) ha hb) ?_)
  rw [cbit_xor, h, Nat.xor_self]
theorem ser_one : ∀ (l : List Int) (s t : Nat), Bits l → s < 65536 → t < 65536 → ser s l = ser t l → s = t
  | [], s, t, _, _, _, h => h
  | b :: r, s, t, hb, hs, ht, h => by
    have hb' := bit_nat (hb b (List.mem_cons_self))
    have x1 : s ^^^ b.toNat < 65536 := Nat.xor_lt_two_pow (n := 16) hs (by omega)
    have x2 : t ^^^ b.toNat < 65536 := Nat.xor_lt_two_pow (n := 16) ht (by omega)
    have := cbit_one _ _ x1 x2 (ser_one r _ _ (fun x hx => hb x (List.mem_cons_of_mem _ hx)) (cbit_lt _ x1) (cbit_lt _ x2) h)
    have e := congrArg (· ^^^ b.toNat) this
    simpa [Nat.xor_assoc] using e
theorem citer_one (n a b : Nat) (ha : a < 65536) (hb : b < 65536) (h : citer n a = citer n b) : a = b := by
  refine xor_zero_eq a b (citer_inj n _ (Nat.xor_lt_two_pow (n := 16) ha hb) ?_)
  rw [citer_xor, h, Nat.xor_self]
/-- Two rows of bits, alike but for a window of 16, and unlike in its first: the sums are unlike. -/
theorem ser_window (l m : List Int) (p s : Nat) (hl : Bits l) (hm : Bits m) (hlen : m.length = l.length) (hp : p < l.length) (hs : s < 65536)
    (hd : l[p]'hp ≠ m[p]'(by omega)) (ho : ∀ i (h : i < l.length), (i < p ∨ p + 16 ≤ i) → l[i]'h = m[i]'(by omega)) : ser s l ≠ ser s m := by
  intro h
  have e1 : m.take p = l.take p := by
    apply List.ext_getElem
    · simp [hlen]
    · intro i h1 h2
      rw [List.length_take] at h2
      rw [List.getElem_take, List.getElem_take]
      exact (ho i (by omega) (Or.inl (by omega))).symm
  have e2 : m.drop (p + 16) = l.drop (p + 16) := by
    apply List.ext_getElem
    · simp [hlen]
    · intro i h1 h2
      rw [List.length_drop] at h2
      rw [List.getElem_drop, List.getElem_drop]
      exact (ho _ (by omega) (Or.inr (by omega))).symm
  have sl : l = l.take p ++ ((l.drop p).take 16 ++ l.drop (p + 16)) := by
    rw [← List.drop_drop, List.take_append_drop, List.take_append_drop]
  have sm : m = l.take p ++ ((m.drop p).take 16 ++ l.drop (p + 16)) := by
    rw [← e1, ← e2, ← List.drop_drop, List.take_append_drop, List.take_append_drop]
  have bw : ∀ {x : List Int}, Bits x → Bits ((x.drop p).take 16) := fun hx y hy => hx y (List.mem_of_mem_drop (List.mem_of_mem_take hy))
  have bd : Bits (l.drop (p + 16)) := fun y hy => hl y (List.mem_of_mem_drop hy)
  have hs1 := ser_lt (l.take p) s (fun y hy => hl y (List.mem_of_mem_take hy)) hs
  rw [sl, sm, ser_append, ser_append, ser_append, ser_append] at h
  generalize ser s (l.take p) = s1 at h hs1
  have h2 := ser_one _ _ _ bd (ser_lt _ _ (bw hl) hs1) (ser_lt _ _ (bw hm) hs1) h
  rw [ser_val _ _ (bw hl), ser_val _ _ (bw hm)] at h2
  have ln : ((m.drop p).take 16).length = ((l.drop p).take 16).length := by simp [hlen]
  have l16 : ((l.drop p).take 16).length ≤ 16 := by rw [List.length_take]; omega
  have v1 := val_lt _ (bw hl)
  have v2 := val_lt _ (bw hm)
  rw [ln] at h2 v2
  have hpow : 2 ^ ((l.drop p).take 16).length ≤ 2 ^ 16 := Nat.pow_le_pow_right (by omega) l16
  have h3 := citer_one _ _ _ (Nat.xor_lt_two_pow (n := 16) hs1 (by omega)) (Nat.xor_lt_two_pow (n := 16) hs1 (by omega)) h2
  have h4 : val ((l.drop p).take 16) = val ((m.drop p).take 16) := by
    have e := congrArg (s1 ^^^ ·) h3
    simpa [← Nat.xor_assoc] using e
  rw [List.drop_eq_getElem_cons hp, List.drop_eq_getElem_cons (show p < m.length by omega), List.take_succ_cons, List.take_succ_cons] at h4
  have h5 : (l[p]'hp).toNat + 2 * val ((l.drop (p + 1)).take 15) = (m[p]'(by omega)).toNat + 2 * val ((m.drop (p + 1)).take 15) := h4
  have b1 := hl (l[p]'hp) (List.getElem_mem _)
  have b2 := hm (m[p]'(by omega)) (List.getElem_mem _)
  omega

/-! ### bytes and bits -/
theorem part_nat {l : List Int} (hb : Bits l) (i : Nat) : ∀ m, i + m ≤ l.length → (MathP.part l i m).toNat = val ((l.drop i).take m)
  | 0, _ => by simp [MathP.part, val]
  | m + 1, h => by
    have ih := part_nat hb i m (by omega)
    have hr := part_range hb i m
    have vs : ∀ (a : List Int) (x : Int), val (a ++ [x]) = val a + 2 ^ a.length * x.toNat := by
      intro a x
      induction a with
      | nil => simp [val]
      | cons y t iht =>
        show y.toNat + 2 * val (t ++ [x]) = y.toNat + 2 * val t + 2 ^ (t.length + 1) * x.toNat
        rw [iht, Nat.pow_succ, Nat.mul_add, Nat.mul_comm (2 ^ t.length) 2, Nat.mul_assoc]
        omega
    have hlt : i + m < l.length := by omega
    have hlt' : m < (l.drop i).length := by rw [List.length_drop]; omega
    rw [List.take_succ_eq_append_getElem hlt', vs, ← ih, List.length_take, Nat.min_eq_left (by omega), List.getElem_drop]
    have e : rd l ((i + m : Nat) : Int) = l[i + m] := rd_nat _ hlt
    show (MathP.part l i m + 2 ^ m * rd l ((i + m : Nat) : Int)).toNat = _
    rw [e]
    have hp : (0 : Int) ≤ 2 ^ m := Int.pow_nonneg (by omega)
    have h2 : ((2 : Int) ^ m).toNat = 2 ^ m := by
      have : ((2 : Int) ^ m) = ((2 ^ m : Nat) : Int) := by simp
      rw [this, Int.toNat_natCast]
    rcases hb l[i + m] (List.getElem_mem _) with hx | hx <;> rw [hx]
    · simp
    · rw [Int.mul_one, Int.toNat_add hr.1 hp, h2]; simp
theorem part_drop (l : List Int) (d i : Nat) : ∀ m, MathP.part l (d + i) m = MathP.part (l.drop d) i m
  | 0 => rfl
  | m + 1 => by
    show MathP.part l (d + i) m + 2 ^ m * rd l ((d + i + m : Nat) : Int) = MathP.part (l.drop d) i m + 2 ^ m * rd (l.drop d) ((i + m : Nat) : Int)
    rw [part_drop l d i m]
    congr 2
    show l.getD ((d + i + m : Nat) : Int).toNat 0 = (l.drop d).getD ((i + m : Nat) : Int).toNat 0
    rw [Int.toNat_natCast, Int.toNat_natCast, List.getD_eq_getElem?_getD, List.getD_eq_getElem?_getD, List.getElem?_drop, Nat.add_assoc]
theorem crc_ser : ∀ (n : Nat) (l : List Int) (s : Nat), Bits l → l.length = 8 * n → crcN s (packs l) = ser s l
  | 0, l, s, hb, h => by
    have : l = [] := List.eq_nil_of_length_eq_zero (by omega)
    subst this
    rfl
  | n + 1, l, s, hb, h => by
    have hp : packs l = MathP.part l 0 8 :: packs (l.drop 8) := by
      unfold packs
      rw [List.length_drop, show (l.length + 7) / 8 = n + 1 from by omega, show (l.length - 8 + 7) / 8 = n from by omega, List.range_succ_eq_map, List.map_cons, List.map_map]
      congr 1
      apply List.map_congr_left
      intro j _
      show MathP.part l (8 * (j + 1)) 8 = MathP.part (l.drop 8) (8 * j) 8
      rw [show 8 * (j + 1) = 8 + 8 * j from by omega, part_drop]
    rw [hp]
    show crcN (citer 8 (s ^^^ (MathP.part l 0 8).toNat)) (packs (l.drop 8)) = _
    rw [crc_ser n (l.drop 8) _ (fun y hy => hb y (List.mem_of_mem_drop hy)) (by rw [List.length_drop]; omega), part_nat hb 0 8 (by omega), List.drop_zero]
    conv => rhs; rw [← List.take_append_drop 8 l]
    rw [ser_append, ser_val (l.take 8) s (fun y hy => hb y (List.mem_of_mem_take hy)), show (l.take 8).length = 8 from by rw [List.length_take]; omega]
theorem unbits_bits (b : List Int) (n : Nat) : Bits (unbits b n) := by
  intro x hx
  unfold unbits at hx
  obtain ⟨i, _, rfl⟩ := List.mem_map.1 hx
  unfold bitOf
  omega
theorem unbits_rd (b : List Int) (n i : Nat) (h : i < n) : rd (unbits b n) (i : Int) = bitOf b i := by
  have : i < (unbits b n).length := by rw [unbits_len]; exact h
  rw [rd_nat _ this]
  simp [unbits]
theorem packs_unbits (b : List Int) (hb : Bytes b) : packs (unbits b (8 * b.length)) = b := by
  unfold packs
  rw [unbits_len]
  apply List.ext_getElem
  · simp; omega
  intro j h1 h2
  simp only [List.getElem_map, List.getElem_range]
  have hx := hb b[j] (List.getElem_mem _)
  have e : ∀ t, t < 8 → rd (unbits b (8 * b.length)) ((8 * j + t : Nat) : Int) = b[j] / 2 ^ t % 2 := by
    intro t ht
    rw [unbits_rd _ _ _ (by omega)]
    unfold bitOf
    rw [show (8 * j + t) / 8 = j from by omega, show (8 * j + t) % 8 = t from by omega, rd_nat _ h2]
  simp only [MathP.part]
  rw [e 0 (by omega), e 1 (by omega), e 2 (by omega), e 3 (by omega), e 4 (by omega), e 5 (by omega), e 6 (by omega), e 7 (by omega)]
  generalize b[j] = x at hx
  simp only [Int.reducePow]
  omega
theorem packs_bytes {l : List Int} (hb : Bits l) : Bytes (packs l) := by
  intro x hx
  unfold packs at hx
  obtain ⟨j, _, rfl⟩ := List.mem_map.1 hx
  exact part_range hb _ 8

/-! ### the loop -/
/-- x is as m, but for some bits of the window of 16 from p on, of which the first is turned. -/
structure Turned (m : List Int) (p : Nat) (x : List Int) : Prop where
  len : x.length = m.length
  bits : Bits x
  out : ∀ i, i < m.length → (i < p ∨ p + 16 ≤ i) → rd x (i : Int) = rd m (i : Int)
  first : rd x (p : Int) ≠ rd m (p : Int)
theorem rd_set (l : List Int) (i j : Nat) (v : Int) (h : i < l.length) : rd (l.set i v) (j : Int) = if i = j then v else rd l (j : Int) := by
  show (l.set i v).getD (j : Int).toNat 0 = if i = j then v else l.getD (j : Int).toNat 0
  rw [Int.toNat_natCast, List.getD_eq_getElem?_getD, List.getD_eq_getElem?_getD, List.getElem?_set]
  by_cases e : i = j
  · subst e; rw [if_pos rfl, if_pos rfl, if_pos h]; rfl
  · rw [if_neg e, if_neg e]
theorem bits_set {l : List Int} (hb : Bits l) (i : Nat) (j : Int) : Bits (l.set i (1 - rd l j)) := by
  intro x hx
  rcases List.mem_or_eq_of_mem_set hx with h | rfl
  · exact hb x h
  · have := bits_rd hb j; omega
theorem Turned.next {m x : List Int} {p j : Nat} (h : Turned m p x) (hj : 1 ≤ j) (hj2 : j < 16) (hl : p + j < x.length) : Turned m p (x.set (p + j) (1 - rd x ((p + j : Nat) : Int))) := by
  refine ⟨by rw [List.length_set]; exact h.len, bits_set h.bits _ _, fun i hi ho => ?_, ?_⟩
  · rw [rd_set _ _ _ _ hl, if_neg (by omega)]; exact h.out i hi ho
  · rw [rd_set _ _ _ _ hl, if_neg (by omega)]; exact h.first
theorem turned_end {m x : List Int} {p : Nat} (h : Turned m p x) (hm : Bits m) (hp : p < m.length) (N : Nat) (hN : m.length = 8 * N) (h0 : ser 65535 m = 0) : crcN 65535 (packs x) ≠ 0 := by
  rw [crc_ser N x _ h.bits (by rw [h.len]; exact hN), ← h0]
  have hxl := h.len
  refine ser_window x m p 65535 h.bits hm (by omega) (by omega) (by omega) ?_ ?_
  · have := h.first
    rw [rd_nat p (by omega), rd_nat p (by omega)] at this
    exact this
  · intro i hi ho
    have := h.out i (by omega) ho
    rw [rd_nat i (by omega), rd_nat i (by omega)] at this
    exact this
theorem turned_j3_end (k : Nat) (hk : 1000000 ≤ k) (m x : List Int) (p : Nat) (o j : Int) (h : Turned m p x) (hm : Bits m) (hp : p < m.length) (N : Nat) (hN : m.length = 8 * N) (hNl : N ≤ 1000) (h0 : ser 65535 m = 0) :
    basculelaw02_CrcTurned.j3 (k + 1) (p : Int) o x j false = some true := by
  have hxl := h.len
  unfold basculelaw02_CrcTurned.j3
  rw [if_neg (by decide)]
  show (some true).bind _ = _
  rw [Option.bind_some, if_pos rfl, refpack_f x h.bits (by omega) k (by omega), Option.bind_some]
  have hpl : (packs x).length = N := by unfold packs; simp; omega
  rw [good_f (packs_bytes h.bits) (by omega), Option.bind_some]
  have := turned_end h hm hp N hN h0
  simp [this]
theorem wdown (o : Int) (h : 0 ≤ o ∧ o ≤ 9223372036854775807) : 0 ≤ wrap64 (Int.tdiv o 2) ∧ wrap64 (Int.tdiv o 2) ≤ 9223372036854775807 := by
  rw [Int.tdiv_eq_ediv_of_nonneg h.1, wrap64_id _ (by omega) (by omega)]
  omega
theorem wsum2 (p j : Nat) (h : p + j < 1000000) : wrap64 ((p : Int) + (j : Int)) = ((p + j : Nat) : Int) := by rw [wrap64_id _ (by omega) (by omega)]; omega
theorem wone (j : Nat) (h : j < 1000000) : wrap64 ((j : Int) + 1) = ((j + 1 : Nat) : Int) := by rw [wrap64_id _ (by omega) (by omega)]; omega
theorem turned_l0 (m : List Int) (p : Nat) (K0 : Nat) (hm : Bits m) (hp : p < m.length) (hN : m.length ≤ 100000)
    (hE : ∀ (k : Nat) (x : List Int) (o j : Int), K0 ≤ k → Turned m p x → basculelaw02_CrcTurned.j3 (k + 1) (p : Int) o x j false = some true) (d : Nat) :
    ∀ (j : Nat) (k : Nat) (o : Int) (x : List Int), j + d = 16 → 1 ≤ j → (0 ≤ o ∧ o ≤ 9223372036854775807) → Turned m p x → K0 ≤ k → basculelaw02_CrcTurned.l0 (k + 2 * d + 2) (p : Int) o x (j : Int) = some true := by
  induction d with
  | zero =>
    intro j k o x hj h1 ho h hk
    have c : ¬ (j : Int) < 16 := by omega
    show basculelaw02_CrcTurned.l0 (k + 1 + 1) _ _ _ _ = _
    rw [basculelaw02_CrcTurned.l0, if_neg c]
    exact hE k x _ _ hk h
  | succ d ih =>
    intro j k o x hj h1 ho h hk
    have hxl := h.len
    have c : (j : Int) < 16 := by omega
    have hw := wsum2 p j (by omega)
    have hw2 := wone j (by omega)
    have ho2 := wdown o ho
    have ih1 := fun (o : Int) (x : List Int) (ho : 0 ≤ o ∧ o ≤ 9223372036854775807) (h : Turned m p x) => ih (j + 1) k o x (by omega) (by omega) ho h hk
    have hr := bits_rd h.bits ((p + j : Nat) : Int)
    have e1 : wrap64 (1 - rd x ((p + j : Nat) : Int)) = 1 - rd x ((p + j : Nat) : Int) := wrap64_id _ (by omega) (by omega)
    show basculelaw02_CrcTurned.l0 ((k + 2 * d + 2) + 1 + 1) _ _ _ _ = _
    rw [basculelaw02_CrcTurned.l0, if_pos c, hw]
    by_cases hc : p + j < x.length
    · have c2 : ((p + j : Nat) : Int) < (x.length : Int) := by omega
      rw [decide_eq_true c2, basculelaw02_CrcTurned.j3, if_pos rfl, hw, hw2, e1]
      by_cases hb : Int.tmod o 2 = 1
      · rw [if_pos hb, if_pos (Int.natCast_nonneg _), if_pos c2, Int.toNat_natCast]
        exact ih1 _ _ ho2 (h.next h1 (by omega) hc)
      · rw [if_neg hb]
        exact ih1 _ _ ho2 h
    · have c2 : ¬ ((p + j : Nat) : Int) < (x.length : Int) := by omega
      rw [decide_eq_false c2]
      exact hE _ x _ _ (by omega) h
theorem CrcTurned : basculelaw02_CrcTurned.Pure := by
  intro l0 a1 a2 _ hl hw h1 h2
  have hb := bytes_of hw
  have r1 := wf64 h1
  have r2 := wf64 h2
  obtain ⟨K, hK⟩ : ∃ K : Nat, 1000000 ≤ K := ⟨1000000, Nat.le_refl _⟩
  refine ⟨K + 40, ?_⟩
  have hj0 : basculelaw02_CrcTurned.j0 (K + 40) l0 a1 a2 true = some true := by
    rw [basculelaw02_CrcTurned.j0, if_pos rfl]
  unfold basculelaw02_CrcTurned.f basculelaw02_small.f
  rw [Option.bind_some]
  by_cases hs : (l0.length : Int) ≤ 600
  · rw [if_pos (decide_eq_true hs)]
    by_cases c1 : a1 < 0
    · rw [if_pos c1]; exact hj0
    rw [if_neg c1]
    by_cases c2 : a2 < 0
    · rw [if_pos c2]; exact hj0
    rw [if_neg c2]
    by_cases c3 : a2 > 32767
    · rw [decide_eq_true c3]; exact hj0
    rw [decide_eq_false c3]
    rw [basculelaw02_CrcTurned.j0, if_neg (by decide), add_f hb (by omega), Option.bind_some]
    have ha0 := crcN_add l0 hb
    have hab := bytes_add l0 hb (crcN 65535 l0) (crcN_lt l0 65535 (by omega) hb)
    have hal : (l0 ++ [((crcN 65535 l0 % 256 : Nat) : Int), ((crcN 65535 l0 / 256 : Nat) : Int)]).length = l0.length + 2 := by simp
    generalize l0 ++ [((crcN 65535 l0 % 256 : Nat) : Int), ((crcN 65535 l0 / 256 : Nat) : Int)] = a at ha0 hab hal
    rw [wrap64_id ((l0.length : Int) + 2) (by omega) (by omega), if_pos (by omega), wrap64_id (8 * (a.length : Int)) (by omega) (by omega)]
    rw [basculelaw02_CrcTurned.j1]
    by_cases c4 : a1 ≥ 8 * (a.length : Int)
    · rw [decide_eq_true c4, if_pos rfl]; rfl
    rw [decide_eq_false c4, if_neg (by decide), wrap64_id (8 * (a.length : Int)) (by omega) (by omega), show 8 * (a.length : Int) = ((8 * a.length : Nat) : Int) from by omega, refunpack_f a hab (8 * a.length) (by omega) (by omega) _ (by omega), Option.bind_some]
    obtain ⟨p, rfl⟩ := Int.eq_ofNat_of_zero_le (show 0 ≤ a1 by omega)
    have hml := unbits_len a (8 * a.length)
    have hmb := unbits_bits a (8 * a.length)
    have hm0 : ser 65535 (unbits a (8 * a.length)) = 0 := by
      rw [← crc_ser a.length _ _ hmb hml, packs_unbits a hab]; exact ha0
    generalize unbits a (8 * a.length) = m at hml hmb hm0
    have hr := bits_rd hmb (p : Int)
    rw [if_pos (by omega), if_pos (by omega), Int.toNat_natCast, wrap64_id (1 - _) (by omega) (by omega)]
    have hT : Turned m p (m.set p (1 - rd m (p : Int))) := by
      refine ⟨by simp, bits_set hmb _ _, fun i hi ho => ?_, ?_⟩
      · rw [rd_set _ _ _ _ (by omega), if_neg (by omega)]
      · rw [rd_set _ _ _ _ (by omega), if_pos rfl]; omega
    rw [show K + 38 = K + 6 + 2 * 15 + 2 from by omega]
    exact turned_l0 m p K hmb (by omega) (by omega) (fun k x o j hk h => turned_j3_end k (by omega) m x p o j h hmb (by omega) a.length hml (by omega) hm0) 15 1 (K + 6) a2 _ (by omega) (by omega) (by omega) hT (by omega)
  · rw [if_neg (by simpa using hs)]; exact hj0
end Go.Proofs.Ytmbiofcibnpccaa.Pure

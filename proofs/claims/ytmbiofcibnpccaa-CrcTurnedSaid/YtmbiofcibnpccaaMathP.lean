/- Bits and bytes: what the packings of layer 1 come to, in the code and in the reference. -/
import Derived.Test.YtmbiofcibnpccaaPAllx1
import Derived.Test.YtmbiofcibnpccaaPAllx5
import Derived.Test.YtmbiofcibnpccaaPBx1
import Derived.Test.YtmbiofcibnpccaaPUx1
import Derived.Test.YtmbiofcibnpccaaExtC
namespace Go.Proofs.Ytmbiofcibnpccaa.MathP
open Go.RowKit Go.Proofs.YtmbiofcibnpccaaW.PrintWords Go.Proofs.YtmbiofcibnpccaaW.PrintLast Go.Proofs.YtmbiofcibnpccaaW.PrintMore Go.Proofs.Ytmbiofcibnpccaa.ExtC Go.Proofs.Ytmbiofcibnpccaa.PAll Go.Proofs.Ytmbiofcibnpccaa.PB Go.Proofs.Ytmbiofcibnpccaa.PU
set_option linter.unusedVariables false

theorem or_bit : ∀ m : Fin 8, ∀ p : Fin 128, p.1 < 2 ^ m.1 → Go.bits .or .u8 (p.1 : Int) (shl .u8 1 (m.1 : Int)) = (p.1 : Int) + 2 ^ m.1 := by decide +kernel
theorem and_bit : ∀ m : Fin 8, ∀ x : Fin 256, Go.bits .and .i64 (wrap64 (shr .u8 (x.1 : Int) (m.1 : Int))) 1 = (x.1 : Int) / 2 ^ m.1 % 2 := by decide +kernel

/-- Only noughts and ones. -/
def Bits (l : List Int) : Prop := ∀ x ∈ l, x = 0 ∨ x = 1
instance (l : List Int) : Decidable (Bits l) := by unfold Bits; infer_instance
theorem bits_rd {l : List Int} (hb : Bits l) (i : Int) : rd l i = 0 ∨ rd l i = 1 := by
  unfold rd
  rcases Nat.lt_or_ge i.toNat l.length with h | h
  · rw [List.getD_eq_getElem?_getD, List.getElem?_eq_getElem h]
    exact hb _ (List.getElem_mem h)
  · rw [List.getD_eq_getElem?_getD, List.getElem?_eq_none h]
    exact Or.inl rfl
theorem rd_out (l : List Int) (i : Nat) (h : l.length ≤ i) : rd l (i : Int) = 0 := by
  unfold rd
  rw [List.getD_eq_getElem?_getD, Int.toNat_natCast, List.getElem?_eq_none h]
  rfl
/-- The first m bits from place i on, as a number. -/
def part (l : List Int) (i : Nat) : Nat → Int
  | 0 => 0
  | m + 1 => part l i m + 2 ^ m * rd l ((i + m : Nat) : Int)
theorem part_range {l : List Int} (hb : Bits l) (i : Nat) : ∀ m, 0 ≤ part l i m ∧ part l i m < 2 ^ m
  | 0 => by simp [part]
  | m + 1 => by
    have ih := part_range hb i m
    have h2 : (2 : Int) ^ (m + 1) = 2 * 2 ^ m := by rw [Int.pow_succ]; omega
    unfold part
    rcases bits_rd hb ((i + m : Nat) : Int) with h | h <;> rw [h] <;> omega
theorem part_beyond (l : List Int) (i : Nat) : ∀ (d m : Nat), l.length ≤ i + m → part l i (m + d) = part l i m
  | 0, m, _ => rfl
  | d + 1, m, h => by
    rw [← Nat.add_assoc]
    show part l i (m + d) + 2 ^ (m + d) * rd l ((i + (m + d) : Nat) : Int) = part l i m
    rw [rd_out l _ (by omega), part_beyond l i d m h]
    omega
/-- The bytes that the bits make. -/
def packs (l : List Int) : List Int := (List.range ((l.length + 7) / 8)).map fun j => part l (8 * j) 8
/-- Bit i of the bytes. -/
def bitOf (b : List Int) (i : Nat) : Int := rd b ((i / 8 : Nat) : Int) / 2 ^ (i % 8) % 2
def unbits (b : List Int) (n : Nat) : List Int := (List.range n).map (bitOf b)

/-! ### the reference's Pack -/
theorem tdiv8 (i : Nat) (h : i ≤ 1000000000000000000) : wrap64 (Int.tdiv (i : Int) 8) = ((i / 8 : Nat) : Int) := by
  rw [Int.tdiv_eq_ediv_of_nonneg (by omega), wrap64_id _ (by omega) (by omega)]; omega
theorem tmod8 (i : Nat) : Int.tmod (i : Int) 8 = ((i % 8 : Nat) : Int) := by
  rw [Int.tmod_eq_emod_of_nonneg (by omega)]; omega
theorem pow8 (m : Nat) (h : m ≤ 8) : (2 : Int) ^ m ≤ 256 ∧ 0 < (2 : Int) ^ m := by
  have : m = 0 ∨ m = 1 ∨ m = 2 ∨ m = 3 ∨ m = 4 ∨ m = 5 ∨ m = 6 ∨ m = 7 ∨ m = 8 := by omega
  rcases this with rfl | rfl | rfl | rfl | rfl | rfl | rfl | rfl | rfl <;> simp
theorem rp_l1' (l : List Int) (hb : Bits l) (hl : l.length ≤ 1000000000000) (o : List Int) (ho : o.length < 140737488355328) (i : Nat) (hi : i ≤ l.length) (r : List Int) : ∀ (d m k : Nat), m + d = 8 →
    (∀ k', k ≤ k' → basculeref01_Pack.l0 k' l (o ++ [part l i 8]) ((i + 8 : Nat) : Int) = some r) → basculeref01_Pack.l1 (k + d + 1) l o (i : Int) (part l i m) (2 ^ m) ((i + m : Nat) : Int) = some r
  | d, m, k, hmd, hr => by
    have hp := part_range hb i m
    have h8 := pow8 m (by omega)
    have hp8 := part_range hb i 8
    have hw : wrap64 ((i : Int) + 8) = ((i + 8 : Nat) : Int) := by rw [wrap64_id _ (by omega) (by omega)]; omega
    have hmod : part l i 8 % 256 = part l i 8 := by have := hp8.2; omega
    unfold basculeref01_Pack.l1
    rw [hw]
    match d, hmd with
    | 0, hmd =>
      obtain rfl : m = 8 := by omega
      rw [if_neg (by omega), if_pos ho, hmod]
      exact hr _ (by omega)
    | d + 1, hmd =>
      rw [if_pos (by omega)]
      by_cases hc : i + m < l.length
      · rw [if_pos (by omega), if_pos (by omega)]
        have hrd := bits_rd hb ((i + m : Nat) : Int)
        have e1 : wrap64 (part l i m + wrap64 (2 ^ m * rd l ((i + m : Nat) : Int))) = part l i (m + 1) := by
          show _ = part l i m + 2 ^ m * rd l ((i + m : Nat) : Int)
          rcases hrd with h | h <;> rw [h]
          · rw [Int.mul_zero, wrap64_id 0 (by omega) (by omega), wrap64_id _ (by omega) (by omega)]
          · rw [Int.mul_one, wrap64_id (2 ^ m) (by omega) (by omega), wrap64_id _ (by omega) (by omega)]
        have e2 : wrap64 (2 * 2 ^ m) = 2 ^ (m + 1) := by rw [wrap64_id _ (by omega) (by omega), Int.pow_succ]; omega
        have e3 : wrap64 (((i + m : Nat) : Int) + 1) = ((i + (m + 1) : Nat) : Int) := by rw [wrap64_id _ (by omega) (by omega)]; omega
        rw [e1, e2, e3]
        exact rp_l1' l hb hl o ho i hi r d (m + 1) k (by omega) hr
      · rw [if_neg (by omega), if_pos ho]
        have : part l i 8 = part l i m := by
          have := part_beyond l i (d + 1) m (by omega)
          rw [hmd] at this
          exact this
        rw [← this, hmod]
        exact hr _ (by omega)
theorem rp_l0 (l : List Int) (hb : Bits l) (hl : l.length ≤ 1000000000000) : ∀ (d j k : Nat), j + d = (l.length + 7) / 8 → 20 * d + 1 ≤ k →
    basculeref01_Pack.l0 k l ((List.range j).map fun j => part l (8 * j) 8) ((8 * j : Nat) : Int) = some (packs l)
  | 0, j, k, hj, hk => by
    obtain ⟨k, rfl⟩ := Nat.exists_eq_add_of_le' (show 1 ≤ k by omega)
    unfold basculeref01_Pack.l0
    rw [if_neg (by omega)]
    unfold packs
    rw [← hj, Nat.add_zero]
  | d + 1, j, k, hj, hk => by
    obtain ⟨k, rfl⟩ := Nat.exists_eq_add_of_le' (show 20 * d + 10 + 1 ≤ k by omega)
    have : k + (20 * d + 10 + 1) = (k + 20 * d + 1 + 8 + 1) + 1 := by omega
    rw [this]
    unfold basculeref01_Pack.l0
    rw [if_pos (by omega)]
    refine rp_l1' l hb hl _ (by simp; omega) (8 * j) (by omega) _ 8 0 (k + 20 * d + 1) (by omega) (fun k' hk' => ?_)
    have := rp_l0 l hb hl d (j + 1) k' (by omega) (by omega)
    rw [List.range_succ, List.map_append] at this
    rw [show 8 * j + 8 = 8 * (j + 1) from by omega]
    exact this
theorem refpack_f (l : List Int) (hb : Bits l) (hl : l.length ≤ 1000000000000) (k : Nat) (hk : 3 * l.length + 100 ≤ k) : basculeref01_Pack.f k l = some (packs l) := by
  unfold basculeref01_Pack.f
  exact rp_l0 l hb hl ((l.length + 7) / 8) 0 k (by omega) (by omega)

/-! ### the code's Pack -/
theorem or_step (p : Int) (m : Nat) (hm : m < 8) (h : 0 ≤ p ∧ p < 2 ^ m) : Go.bits .or .u8 p (shl .u8 1 (m : Int)) = p + 2 ^ m := by
  obtain ⟨q, rfl⟩ := Int.eq_ofNat_of_zero_le h.1
  have h2 : q < 2 ^ m := by have := h.2; exact_mod_cast this
  have h3 : (2 : Nat) ^ m ≤ 2 ^ 7 := Nat.pow_le_pow_right (by omega) (by omega)
  exact or_bit ⟨m, hm⟩ ⟨q, by omega⟩ h2
/-- The bytes that the first i bits make. -/
def upto (l : List Int) (n i : Nat) : List Int := (List.range n).map fun j => part l (8 * j) (min 8 (i - 8 * j))
theorem upto_len (l : List Int) (n i : Nat) : (upto l n i).length = n := by simp [upto]
theorem upto_rd (l : List Int) (n i j : Nat) (h : j < n) : rd (upto l n i) (j : Int) = part l (8 * j) (min 8 (i - 8 * j)) := by
  unfold rd
  rw [Int.toNat_natCast, List.getD_eq_getElem?_getD, List.getElem?_eq_getElem (by rw [upto_len]; exact h)]
  simp [upto]
theorem upto_zero (l : List Int) (n i : Nat) (hn : i / 8 < n) (h : rd l (i : Int) = 0) : upto l n (i + 1) = upto l n i := by
  unfold upto
  apply List.map_congr_left
  intro j hj
  by_cases hc : i / 8 = j
  · subst hc
    rw [show min 8 (i + 1 - 8 * (i / 8)) = min 8 (i - 8 * (i / 8)) + 1 from by omega]
    show _ + 2 ^ _ * rd l ((8 * (i / 8) + min 8 (i - 8 * (i / 8)) : Nat) : Int) = _
    rw [show 8 * (i / 8) + min 8 (i - 8 * (i / 8)) = i from by omega, h]
    omega
  · rw [show min 8 (i + 1 - 8 * j) = min 8 (i - 8 * j) from by omega]
theorem upto_one (l : List Int) (hb : Bits l) (n i : Nat) (hn : i / 8 < n) (h : rd l (i : Int) = 1) :
    (upto l n i).set (i / 8) (Go.bits .or .u8 (rd (upto l n i) ((i / 8 : Nat) : Int)) (shl .u8 1 ((i % 8 : Nat) : Int))) = upto l n (i + 1) := by
  rw [upto_rd l n i (i / 8) hn, show min 8 (i - 8 * (i / 8)) = i % 8 from by omega, or_step _ _ (by omega) (part_range hb _ _)]
  apply List.ext_getElem
  · simp [upto]
  intro j h1 h2
  have hj : j < n := by rw [upto_len] at h2; exact h2
  rw [List.getElem_set]
  by_cases hc : i / 8 = j
  · subst hc
    rw [if_pos rfl]
    simp only [upto, List.getElem_map, List.getElem_range]
    rw [show min 8 (i + 1 - 8 * (i / 8)) = i % 8 + 1 from by omega]
    show _ = _ + 2 ^ _ * rd l ((8 * (i / 8) + i % 8 : Nat) : Int)
    rw [show 8 * (i / 8) + i % 8 = i from by omega, h, Int.mul_one]
  · rw [if_neg hc]
    simp only [upto, List.getElem_map, List.getElem_range]
    rw [show min 8 (i + 1 - 8 * j) = min 8 (i - 8 * j) from by omega]
theorem upto_end (l : List Int) : upto l ((l.length + 7) / 8) l.length = packs l := by
  unfold upto packs
  apply List.map_congr_left
  intro j hj
  have hj := List.mem_range.1 hj
  by_cases hc : 8 * j + 8 ≤ l.length
  · rw [show min 8 (l.length - 8 * j) = 8 from by omega]
  · have := part_beyond l (8 * j) (8 - (l.length - 8 * j)) (l.length - 8 * j) (by omega)
    rw [show l.length - 8 * j + (8 - (l.length - 8 * j)) = 8 from by omega] at this
    rw [this, show min 8 (l.length - 8 * j) = l.length - 8 * j from by omega]
theorem wp_l0 (l : List Int) (hb : Bits l) (hl : l.length ≤ 1000000000000) : ∀ (d i k : Nat), i + d = l.length → d + 1 ≤ k →
    wire_Pack.l0 k (upto l ((l.length + 7) / 8) i) l (l.length : Int) (i : Int) = some (packs l, 0)
  | 0, i, k, hi, hk => by
    obtain ⟨k, rfl⟩ := Nat.exists_eq_add_of_le' (show 1 ≤ k by omega)
    unfold wire_Pack.l0
    rw [if_neg (by omega), show i = l.length from by omega, upto_end]
  | d + 1, i, k, hi, hk => by
    obtain ⟨k, rfl⟩ := Nat.exists_eq_add_of_le' (show 1 ≤ k by omega)
    have hw : wrap64 ((i : Int) + 1) = ((i + 1 : Nat) : Int) := by rw [wrap64_id _ (by omega) (by omega)]; omega
    have ih := wp_l0 l hb hl d (i + 1) k (by omega) (by omega)
    unfold wire_Pack.l0
    rw [if_pos (by omega), if_pos (by omega), if_pos (by omega), hw]
    rcases bits_rd hb (i : Int) with h | h
    · rw [if_pos h, ← upto_zero l _ i (by omega) h]
      exact ih
    · rw [if_neg (by omega), if_pos h, tdiv8 i (by omega), tmod8, if_pos (by omega), if_pos (by rw [upto_len]; omega), if_pos (by omega), Int.toNat_natCast, upto_one l hb _ i (by omega) h]
      exact ih
theorem upto_nought (l : List Int) (n : Nat) : List.replicate n (0 : Int) = upto l n 0 := by
  unfold upto
  apply List.ext_getElem
  · simp
  intro i h1 h2
  simp [part]
theorem pack_start (l : List Int) (hl : l.length ≤ 1000000000000) (k : Nat) : wire_Pack.f k l = wire_Pack.l0 k (upto l ((l.length + 7) / 8) 0) l (l.length : Int) 0 := by
  unfold wire_Pack.f
  have hw : wrap64 ((l.length : Int) + 7) = ((l.length + 7 : Nat) : Int) := by rw [wrap64_id _ (by omega) (by omega)]; omega
  rw [hw, tdiv8 _ (by omega), if_pos (by omega), if_pos (by omega), Int.toNat_natCast, upto_nought]
theorem pack_yes (l : List Int) (hb : Bits l) (hl : l.length ≤ 1000000000000) (k : Nat) (hk : l.length + 1 ≤ k) : wire_Pack.f k l = some (packs l, 0) := by
  rw [pack_start l hl]
  exact wp_l0 l hb hl l.length 0 k (by omega) hk
theorem wp_no (l : List Int) (hl : l.length ≤ 1000000000000) : ∀ (d i k : Nat) (o : List Int), i + d = l.length → d + 1 ≤ k → o.length = (l.length + 7) / 8 → ¬ Bits (l.drop i) →
    wire_Pack.l0 k o l (l.length : Int) (i : Int) = some ([], 1)
  | 0, i, k, o, hi, hk, ho, hb => by
    refine absurd ?_ hb
    rw [List.drop_of_length_le (by omega)]
    intro x hx
    cases hx
  | d + 1, i, k, o, hi, hk, ho, hb => by
    obtain ⟨k, rfl⟩ := Nat.exists_eq_add_of_le' (show 1 ≤ k by omega)
    have hw : wrap64 ((i : Int) + 1) = ((i + 1 : Nat) : Int) := by rw [wrap64_id _ (by omega) (by omega)]; omega
    have hlt : i < l.length := by omega
    have hrd : rd l (i : Int) = l[i] := by simp [rd, List.getElem?_eq_getElem hlt]
    have hcons : l.drop i = l[i] :: l.drop (i + 1) := List.drop_eq_getElem_cons hlt
    have hnext : (rd l (i : Int) = 0 ∨ rd l (i : Int) = 1) → ¬ Bits (l.drop (i + 1)) := fun h hB => hb (by
      rw [hcons]
      intro x hx
      rcases List.mem_cons.1 hx with rfl | hx
      · rw [← hrd]; exact h
      · exact hB x hx)
    unfold wire_Pack.l0
    rw [if_pos (by omega), if_pos (by omega), if_pos (by omega), hw]
    by_cases h0 : rd l (i : Int) = 0
    · rw [if_pos h0]
      exact wp_no l hl d (i + 1) k o (by omega) (by omega) ho (hnext (Or.inl h0))
    · by_cases h1 : rd l (i : Int) = 1
      · rw [if_neg h0, if_pos h1, tdiv8 i (by omega), tmod8, if_pos (by omega), if_pos (by omega), if_pos (by omega)]
        exact wp_no l hl d (i + 1) k _ (by omega) (by omega) (by rw [List.length_set]; exact ho) (hnext (Or.inr h1))
      · rw [if_neg h0, if_neg h1]
theorem pack_no (l : List Int) (hb : ¬ Bits l) (hl : l.length ≤ 1000000000000) (k : Nat) (hk : l.length + 1 ≤ k) : wire_Pack.f k l = some ([], 1) := by
  rw [pack_start l hl]
  exact wp_no l hl l.length 0 k _ (by omega) hk (upto_len _ _ _) (by rw [List.drop_zero]; exact hb)

/-! ### Bits and Ints -/
theorem bits_l0 (l : List Int) (hl : l.length ≤ 1000000000000) : ∀ (d i k : Nat), i + d = l.length → d + 1 ≤ k → basculeref01_Bits.l0 k l (i : Int) = some (decide (Bits (l.drop i)))
  | 0, i, k, hi, hk => by
    obtain ⟨k, rfl⟩ := Nat.exists_eq_add_of_le' (show 1 ≤ k by omega)
    unfold basculeref01_Bits.l0
    rw [if_neg (by omega), List.drop_of_length_le (by omega), decide_eq_true (show Bits [] from fun x hx => by cases hx)]
  | d + 1, i, k, hi, hk => by
    obtain ⟨k, rfl⟩ := Nat.exists_eq_add_of_le' (show 1 ≤ k by omega)
    have hw : wrap64 ((i : Int) + 1) = ((i + 1 : Nat) : Int) := by rw [wrap64_id _ (by omega) (by omega)]; omega
    have hlt : i < l.length := by omega
    have hrd : rd l (i : Int) = l[i] := by simp [rd, List.getElem?_eq_getElem hlt]
    have hcons : l.drop i = l[i] :: l.drop (i + 1) := List.drop_eq_getElem_cons hlt
    have ih := bits_l0 l hl d (i + 1) k (by omega) (by omega)
    have hb : Bits (l.drop i) ↔ (rd l (i : Int) = 0 ∨ rd l (i : Int) = 1) ∧ Bits (l.drop (i + 1)) := by
      rw [hcons, hrd]
      unfold Bits
      exact List.forall_mem_cons
    unfold basculeref01_Bits.l0
    rw [if_pos (by omega), if_pos (by omega), hw]
    by_cases h0 : rd l (i : Int) = 0
    · rw [if_pos h0, ih]
      simp only [Option.some.injEq, decide_eq_decide]
      rw [hb]; simp [h0]
    · by_cases h1 : rd l (i : Int) = 1
      · rw [if_neg h0, if_pos h1, ih]
        simp only [Option.some.injEq, decide_eq_decide]
        rw [hb]; simp [h1]
      · rw [if_neg h0, if_neg h1]
        simp only [Option.some.injEq]
        rw [eq_comm, decide_eq_false_iff_not, hb]
        omega
theorem bits_f (l : List Int) (hl : l.length ≤ 1000000000000) (k : Nat) (hk : l.length + 1 ≤ k) : basculeref01_Bits.f k l = some (decide (Bits l)) := by
  have := bits_l0 l hl l.length 0 k (by omega) hk
  rw [List.drop_zero] at this
  exact this
theorem ints_l0 (l : List Int) (hl : l.length ≤ 1000000000000) : ∀ (d i k : Nat), i + d = l.length → d + 1 ≤ k → basculeref01_Ints.l0 k l l (i : Int) = some true
  | 0, i, k, hi, hk => by
    obtain ⟨k, rfl⟩ := Nat.exists_eq_add_of_le' (show 1 ≤ k by omega)
    unfold basculeref01_Ints.l0
    rw [if_neg (by omega)]
  | d + 1, i, k, hi, hk => by
    obtain ⟨k, rfl⟩ := Nat.exists_eq_add_of_le' (show 1 ≤ k by omega)
    have hw : wrap64 ((i : Int) + 1) = ((i + 1 : Nat) : Int) := by rw [wrap64_id _ (by omega) (by omega)]; omega
    unfold basculeref01_Ints.l0
    rw [if_pos (by omega), if_pos (by omega), if_pos (by omega), if_pos rfl, hw]
    exact ints_l0 l hl d (i + 1) k (by omega) (by omega)
theorem ints_f (l : List Int) (hl : l.length ≤ 1000000000000) (k : Nat) (hk : l.length + 1 ≤ k) : basculeref01_Ints.f k l l = some true := by
  unfold basculeref01_Ints.f
  rw [if_pos rfl]
  exact ints_l0 l hl l.length 0 k (by omega) hk

/-! ### Unpack -/
theorem and_step (x : Int) (m : Nat) (hm : m < 8) (h : 0 ≤ x ∧ x < 256) : Go.bits .and .i64 (wrap64 (shr .u8 x (m : Int))) 1 = x / 2 ^ m % 2 := by
  obtain ⟨q, rfl⟩ := Int.eq_ofNat_of_zero_le h.1
  exact and_bit ⟨m, hm⟩ ⟨q, by omega⟩
theorem unbits_len (b : List Int) (n : Nat) : (unbits b n).length = n := by simp [unbits]
theorem wu_l0 (b : List Int) (hb : Bytes b) (n : Nat) (hn : n ≤ 8 * b.length) (hl : b.length ≤ 1000000000000) : ∀ (d i k : Nat), i + d = n → d + 1 ≤ k →
    wire_Unpack.l0 k b ((unbits b n).take i ++ List.replicate (n - i) 0) (n : Int) (i : Int) = some (unbits b n, 0)
  | 0, i, k, hi, hk => by
    obtain ⟨k, rfl⟩ := Nat.exists_eq_add_of_le' (show 1 ≤ k by omega)
    unfold wire_Unpack.l0
    rw [if_neg (by omega), show n - i = 0 from by omega, List.replicate_zero, List.append_nil, List.take_of_length_le (by rw [unbits_len]; omega)]
  | d + 1, i, k, hi, hk => by
    obtain ⟨k, rfl⟩ := Nat.exists_eq_add_of_le' (show 1 ≤ k by omega)
    have hw : wrap64 ((i : Int) + 1) = ((i + 1 : Nat) : Int) := by rw [wrap64_id _ (by omega) (by omega)]; omega
    have hlt : i < (unbits b n).length := by rw [unbits_len]; omega
    have ih := wu_l0 b hb n hn hl d (i + 1) k (by omega) (by omega)
    have hset : ((unbits b n).take i ++ List.replicate (n - i) 0).set i (bitOf b i) = (unbits b n).take (i + 1) ++ List.replicate (n - (i + 1)) 0 := by
      rw [List.set_append_right _ _ (by rw [List.length_take, unbits_len]; omega), show i - ((unbits b n).take i).length = 0 from by rw [List.length_take, unbits_len]; omega, show n - i = (n - (i + 1)) + 1 from by omega, List.replicate_succ, List.set_cons_zero, List.take_succ_eq_append_getElem hlt, List.append_assoc]
      simp [unbits]
    unfold wire_Unpack.l0
    rw [if_pos (by omega), tdiv8 i (by omega), tmod8, if_pos (by omega), if_pos (by omega), if_pos (by omega), if_pos (by omega), if_pos (by rw [List.length_append, List.length_take, unbits_len, List.length_replicate]; omega), hw, and_step _ _ (by omega) (bytes_rd hb _), Int.toNat_natCast]
    show wire_Unpack.l0 k b (List.set _ i (bitOf b i)) _ _ = _
    rw [hset]
    exact ih
theorem unpack_yes (b : List Int) (hb : Bytes b) (n : Nat) (hn : n ≤ 8 * b.length) (hl : b.length ≤ 1000000000000) (k : Nat) (hk : n + 1 ≤ k) : wire_Unpack.f k b (n : Int) = some (unbits b n, 0) := by
  unfold wire_Unpack.f
  rw [wrap64_id (8 * (b.length : Int)) (by omega) (by omega), if_neg (by omega), if_neg (by omega), if_pos (by omega), if_pos (by omega), Option.bind_some, Int.toNat_natCast, List.length_replicate]
  have := wu_l0 b hb n hn hl n 0 k (by omega) hk
  rw [List.take_zero, List.nil_append] at this
  exact this
theorem tdivs (x : Nat) (h : x ≤ 1000000000000000000) : wrap64 (Int.tdiv (x : Int) 2) = ((x / 2 : Nat) : Int) := by
  rw [Int.tdiv_eq_ediv_of_nonneg (by omega), wrap64_id _ (by omega) (by omega)]; omega
theorem ru_l1 (b : List Int) (n : Int) (o : List Int) (ho : o.length < 17592186044416) (i : Nat) (hi : i ≤ 1000000000000000) (r : List Int) : ∀ (d m k x : Nat), x < 256 → m + d = i % 8 →
    basculeref01_Unpack.l0 k b n (o ++ [((x / 2 ^ d % 2 : Nat) : Int)]) ((i + 1 : Nat) : Int) = some r → basculeref01_Unpack.l1 (k + d + 1) b n o (i : Int) (x : Int) (m : Int) = some r
  | 0, m, k, x, hx, hm, hr => by
    have hw : wrap64 ((i : Int) + 1) = ((i + 1 : Nat) : Int) := by rw [wrap64_id _ (by omega) (by omega)]; omega
    unfold basculeref01_Unpack.l1
    rw [tmod8, if_neg (by omega), if_pos ho, hw, show Int.tmod (x : Int) 2 = ((x % 2 : Nat) : Int) from by rw [Int.tmod_eq_emod_of_nonneg (by omega)]; omega]
    simpa using hr
  | d + 1, m, k, x, hx, hm, hr => by
    have hw : wrap64 ((m : Int) + 1) = ((m + 1 : Nat) : Int) := by rw [wrap64_id _ (by omega) (by omega)]; omega
    rw [show k + (d + 1) + 1 = (k + d + 1) + 1 from by omega]
    unfold basculeref01_Unpack.l1
    rw [tmod8, if_pos (by omega), hw, tdivs x (by omega)]
    refine ru_l1 b n o ho i hi r d (m + 1) k (x / 2) (by omega) (by omega) ?_
    rw [Nat.div_div_eq_div_mul, show 2 * 2 ^ d = 2 ^ (d + 1) from by rw [Nat.pow_succ]; omega]
    exact hr
theorem ru_l0 (b : List Int) (hb : Bytes b) (n : Nat) (hn : n ≤ 8 * b.length) (hl : b.length ≤ 100000000000) : ∀ (d i k : Nat), i + d = n → 20 * d + 1 ≤ k →
    basculeref01_Unpack.l0 k b (n : Int) ((unbits b n).take i) (i : Int) = some (unbits b n)
  | 0, i, k, hi, hk => by
    obtain ⟨k, rfl⟩ := Nat.exists_eq_add_of_le' (show 1 ≤ k by omega)
    unfold basculeref01_Unpack.l0
    rw [if_neg (by omega), List.take_of_length_le (by rw [unbits_len]; omega)]
  | d + 1, i, k, hi, hk => by
    obtain ⟨k, rfl⟩ := Nat.exists_eq_add_of_le' (show i % 8 + 2 ≤ k by omega)
    have hlt : i < (unbits b n).length := by rw [unbits_len]; omega
    have hby := bytes_rd hb ((i / 8 : Nat) : Int)
    rw [show k + (i % 8 + 2) = (k + i % 8 + 1) + 1 from by omega]
    unfold basculeref01_Unpack.l0
    rw [if_pos (by omega), tdiv8 i (by omega), if_pos (by omega), if_pos (by omega), wrap64_id _ (by omega) (by omega)]
    obtain ⟨x, hx⟩ := Int.eq_ofNat_of_zero_le hby.1
    rw [hx]
    refine ru_l1 b n _ (by rw [List.length_take, unbits_len]; omega) i (by omega) _ (i % 8) 0 k x (by omega) (by omega) ?_
    have ih := ru_l0 b hb n hn hl d (i + 1) k (by omega) (by omega)
    rw [List.take_succ_eq_append_getElem hlt] at ih
    have e : (unbits b n)[i] = ((x / 2 ^ (i % 8) % 2 : Nat) : Int) := by
      simp only [unbits, List.getElem_map, List.getElem_range, bitOf]
      rw [hx]
      simp
    rw [e] at ih
    exact ih
theorem refunpack_f (b : List Int) (hb : Bytes b) (n : Nat) (hn : n ≤ 8 * b.length) (hl : b.length ≤ 100000000000) (k : Nat) (hk : 20 * n + 1 ≤ k) : basculeref01_Unpack.f k b (n : Int) = some (unbits b n) := by
  have := ru_l0 b hb n hn hl n 0 k (by omega) hk
  rw [List.take_zero] at this
  exact this
end Go.Proofs.Ytmbiofcibnpccaa.MathP

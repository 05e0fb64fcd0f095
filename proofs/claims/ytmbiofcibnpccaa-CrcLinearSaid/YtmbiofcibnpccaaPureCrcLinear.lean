/- The sums of what is unlike in three rows are unlike so, too: the plain statement of CrcLinear. -/
import Derived.Test.YtmbiofcibnpccaaPAllx3
import Derived.Test.YtmbiofcibnpccaaMath
namespace Go.Proofs.Ytmbiofcibnpccaa.Pure
open Go.RowKit Go.Proofs.Ytmbiofcibnpccaa.PAll Go.Proofs.YtmbiofcibnpccaaW.PrintWords Go.Proofs.YtmbiofcibnpccaaW.PrintLast Go.Proofs.Ytmbiofcibnpccaa.Ext Go.Proofs.Ytmbiofcibnpccaa.ExtC Go.Proofs.Ytmbiofcibnpccaa.ExtD Go.Proofs.Ytmbiofcibnpccaa.Math
set_option linter.unusedVariables false

theorem linear_l0 (a b c : List Int) (ha : Bytes a) (hb : Bytes b) (hc : Bytes c) (hab : a.length = b.length) (hac : a.length = c.length) (hl : a.length ≤ 600) (d : Nat) :
    ∀ (k i : Nat) (x : List Int), i + d = a.length → x.length = i → Bytes x → crcN 65535 (a.take i) ^^^ crcN 65535 (b.take i) ^^^ crcN 65535 (c.take i) = crcN 65535 x → d + 50 < k →
    basculelaw02_CrcLinear.l0 k a b c x (i : Int) = some true := by
  induction d with
  | zero =>
    intro k i x hi hx hbx he hk
    obtain ⟨k, rfl⟩ : ∃ m, k = m + 1 := ⟨k - 1, by omega⟩
    simp only [basculelaw02_CrcLinear.l0]
    rw [if_neg (by omega), sum_f ha (by omega), sum_f hb (by omega), sum_f hc (by omega), sum_f hbx (by omega)]
    rw [List.take_of_length_le (by omega), List.take_of_length_le (by omega), List.take_of_length_le (by omega)] at he
    have h1 := crcN_lt a 65535 (by omega) ha
    have h2 := crcN_lt b 65535 (by omega) hb
    have h3 := crcN_lt c 65535 (by omega) hc
    have h12 : crcN 65535 a ^^^ crcN 65535 b < 65536 := Nat.xor_lt_two_pow (n := 16) h1 h2
    simp only [Option.bind_some]
    rw [xor_f k _ _ h1 h2 (by omega)]
    simp only [Option.bind_some]
    rw [xor_f k _ _ h12 h3 (by omega), he]
    simp [basculelaw02_awake.f]
  | succ d ih =>
    intro k i x hi hx hbx he hk
    obtain ⟨k, rfl⟩ : ∃ m, k = m + 1 := ⟨k - 1, by omega⟩
    simp only [basculelaw02_CrcLinear.l0]
    have h1 := ha a[i] (List.getElem_mem _)
    have h2 := hb b[i] (List.getElem_mem _)
    have h3 := hc c[i] (List.getElem_mem _)
    rw [if_pos (by omega), if_pos (by omega), if_pos (by omega), rd_nat i (by omega), rd_nat i (by omega), rd_nat i (by omega)]
    obtain ⟨p, hp⟩ := Int.eq_ofNat_of_zero_le h1.1
    obtain ⟨q, hq⟩ := Int.eq_ofNat_of_zero_le h2.1
    obtain ⟨r, hr⟩ := Int.eq_ofNat_of_zero_le h3.1
    rw [hp] at h1; rw [hq] at h2; rw [hr] at h3
    rw [hp, hq, hr, wrap64_id _ (by omega) (by omega), wrap64_id _ (by omega) (by omega), wrap64_id _ (by omega) (by omega)]
    rw [xor_f k p q (by omega) (by omega) (by omega)]
    have hpq : p ^^^ q < 256 := Nat.xor_lt_two_pow (n := 8) (by omega) (by omega)
    have hpqr : p ^^^ q ^^^ r < 256 := Nat.xor_lt_two_pow (n := 8) (by omega) (by omega)
    simp only [Option.bind_some]
    rw [if_pos (by omega), xor_f k _ r (by omega) (by omega) (by omega)]
    simp only [Option.bind_some]
    rw [if_pos (by omega), wrap64_id _ (by omega) (by omega), show ((i : Int) + 1) = ((i + 1 : Nat) : Int) from by omega, show ((p ^^^ q ^^^ r : Nat) : Int) % 256 = ((p ^^^ q ^^^ r : Nat) : Int) from by omega]
    refine ih k (i + 1) _ (by omega) (by simp [hx]) ?_ ?_ (by omega)
    · intro y hy
      simp only [List.mem_append, List.mem_cons, List.not_mem_nil, or_false] at hy
      rcases hy with h | rfl
      · exact hbx y h
      · omega
    · rw [take_snoc_ a i (by omega), take_snoc_ b i (by omega), take_snoc_ c i (by omega), crcN_snoc, crcN_snoc, crcN_snoc, crcN_snoc, hp, hq, hr, ← he]
      simp only [Int.toNat_natCast]
      rw [crcStep_xor, crcStep_xor]

theorem CrcLinear : basculelaw02_CrcLinear.Pure := by
  intro a b c _ _ ha _ _ hb _ _ hc
  replace ha := bytes_of ha
  replace hb := bytes_of hb
  replace hc := bytes_of hc
  refine ⟨a.length + 60, ?_⟩
  unfold basculelaw02_CrcLinear.f basculelaw02_small.f
  simp only [Option.bind_some]
  by_cases hl : (a.length : Int) ≤ 600
  · rw [if_pos (by simpa using hl)]
    by_cases hab : (a.length : Int) = (b.length : Int)
    · rw [if_pos hab]
      by_cases hac : (a.length : Int) = (c.length : Int)
      · have : ((a.length : Int) != (c.length : Int)) = false := by simp; omega
        rw [this]
        simp only [basculelaw02_CrcLinear.j0]
        rw [if_neg (by simp)]
        exact linear_l0 a b c ha hb hc (by omega) (by omega) (by omega) a.length _ 0 [] (by omega) rfl (by intro x hx; simp at hx) (by simp [crcN]) (by omega)
      · have : ((a.length : Int) != (c.length : Int)) = true := by simp; omega
        rw [this]
        simp only [basculelaw02_CrcLinear.j0]
        rw [if_pos trivial]
    · rw [if_neg hab]
      simp only [basculelaw02_CrcLinear.j0]
      rw [if_pos trivial]
  · rw [if_neg (by simpa using hl)]
    simp only [basculelaw02_CrcLinear.j0]
    rw [if_pos trivial]
end Go.Proofs.Ytmbiofcibnpccaa.Pure

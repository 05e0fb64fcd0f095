/- Words that are put one behind the other are told one by one: the plain statement of WireRows. -/
import Derived.Test.YtmbiofcibnpccaaPAllx4
import Derived.Test.YtmbiofcibnpccaaMath
namespace Go.Proofs.Ytmbiofcibnpccaa.Pure
open Go.RowKit Go.Proofs.Ytmbiofcibnpccaa.PAll Go.Proofs.Ytmbiofcibnpccaa.PB Go.Proofs.YtmbiofcibnpccaaW.PrintWords Go.Proofs.YtmbiofcibnpccaaW.PrintLast Go.Proofs.Ytmbiofcibnpccaa.Ext Go.Proofs.Ytmbiofcibnpccaa.ExtC Go.Proofs.Ytmbiofcibnpccaa.ExtD Go.Proofs.Ytmbiofcibnpccaa.Math
set_option linter.unusedVariables false

theorem put_f (l : List Int) (a : Int) (h : 0 ≤ a ∧ a ≤ 65535) (hl : l.length ≤ 1000000000) : wire_Put.f l a = some (l ++ [a / 256, a % 256], 0) := by
  unfold wire_Put.f wire_behind.f
  rw [if_neg (by omega), if_neg (by omega), if_pos (by omega)]
  simp only [Option.bind_some]
  rw [if_pos (by simp; omega), show a / 256 % 256 = a / 256 from by omega]
theorem put_no (l : List Int) (a : Int) (h : ¬ (0 ≤ a ∧ a ≤ 65535)) : wire_Put.f l a = some ([], 1) := by
  unfold wire_Put.f
  by_cases h0 : a < 0
  · rw [if_pos h0]
  · rw [if_neg h0, if_pos (by omega)]
theorem is_f (a : Int) : basculeref01_Is.f a = some (decide (0 ≤ a ∧ a ≤ 65535)) := by
  unfold basculeref01_Is.f
  by_cases h0 : a ≥ 0
  · rw [if_pos h0]
    congr 1
    rw [Bool.eq_iff_iff]
    simp
    omega
  · rw [if_neg h0]
    congr 1
    rw [Bool.eq_iff_iff]
    simp
    omega

def words : List Int → List Int
  | [] => []
  | n :: l => n / 256 :: n % 256 :: words l
theorem words_length (l : List Int) : (words l).length = 2 * l.length := by
  induction l with
  | nil => rfl
  | cons n l ih => simp [words, ih]; omega
theorem words_snoc (l : List Int) (n : Int) : words (l ++ [n]) = words l ++ [n / 256, n % 256] := by
  induction l with
  | nil => rfl
  | cons m l ih => simp [words, ih]
def Words (l : List Int) : Prop := ∀ x ∈ l, 0 ≤ x ∧ x ≤ 65535
theorem words_bytes (l : List Int) (h : Words l) : Bytes (words l) := by
  induction l with
  | nil => intro x hx; simp [words] at hx
  | cons n l ih =>
    intro x hx
    have hn := h n (by simp)
    simp only [words, List.mem_cons] at hx
    rcases hx with rfl | rfl | hx
    · omega
    · omega
    · exact ih (fun y hy => h y (by simp [hy])) x hx
theorem words_rd (l : List Int) : ∀ (i : Nat) (h : i < l.length), rd (words l) ((2 * i : Nat) : Int) = l[i] / 256 ∧ rd (words l) ((2 * i + 1 : Nat) : Int) = l[i] % 256 := by
  induction l with
  | nil => intro i h; simp at h
  | cons n l ih =>
    intro i h
    cases i with
    | zero => simp [words, rd]
    | succ i =>
      have h' : i < l.length := by simpa using h
      obtain ⟨h1, h2⟩ := ih i h'
      have e1 : (2 * (i + 1)) = 2 * i + 1 + 1 := by omega
      unfold rd at h1 h2 ⊢
      rw [Int.toNat_natCast] at h1 h2
      rw [Int.toNat_natCast, Int.toNat_natCast]
      rw [e1]
      simp only [words, List.getD_cons_succ, List.getElem_cons_succ]
      exact ⟨h1, h2⟩

theorem rows_l1 (l : List Int) (hw : Words l) (hl : l.length ≤ 500) (d : Nat) : ∀ (k i : Nat), i + d = l.length → d < k → basculelaw01_WireRows.l1 k l (words l) (i : Int) = some true := by
  have hb := words_bytes l hw
  have hlen := words_length l
  induction d with
  | zero =>
    intro k i hi hk
    obtain ⟨k, rfl⟩ : ∃ m, k = m + 1 := ⟨k - 1, by omega⟩
    simp only [basculelaw01_WireRows.l1]
    rw [if_neg (by omega), wrap64_id _ (by omega) (by omega)]
    have ha : wire_At.f (words l) (2 * (l.length : Int)) = some (0, 7) := by
      unfold wire_At.f
      rw [if_pos ⟨hb, by omega, by omega, by omega⟩, if_neg (by omega), if_pos (by omega)]
    rw [ha]
    simp [basculelaw01_awake.f]
  | succ d ih =>
    intro k i hi hk
    obtain ⟨k, rfl⟩ : ∃ m, k = m + 1 := ⟨k - 1, by omega⟩
    simp only [basculelaw01_WireRows.l1]
    obtain ⟨h1, h2⟩ := words_rd l i (by omega)
    have hx := hw l[i] (List.getElem_mem _)
    rw [if_pos (by omega), wrap64_id _ (by omega) (by omega)]
    have ha : wire_At.f (words l) (2 * (i : Int)) = some (l[i], 0) := by
      unfold wire_At.f
      rw [if_pos ⟨hb, by omega, by omega, by omega⟩, if_neg (by omega), if_neg (by omega)]
      rw [show (2 * (i : Int)) = ((2 * i : Nat) : Int) from by omega, show ((2 * i : Nat) : Int) + 1 = ((2 * i + 1 : Nat) : Int) from by omega, h1, h2]
      congr 2
      omega
    rw [ha]
    simp only [Option.bind_some]
    have hw1 : wrap64 ((i : Int) + 1) = ((i + 1 : Nat) : Int) := by rw [wrap64_id _ (by omega) (by omega)]; omega
    rw [if_pos (by omega), rd_nat i (by omega), if_pos rfl, if_pos trivial, hw1]
    exact ih k (i + 1) (by omega) (by omega)

theorem rows_l0 (l : List Int) (hl : l.length ≤ 500) (d : Nat) : ∀ (k i : Nat), i + d = l.length → Words (l.take i) → d + l.length + 2 < k → basculelaw01_WireRows.l0 k l (words (l.take i)) (i : Int) = some true := by
  induction d with
  | zero =>
    intro k i hi hw hk
    obtain ⟨k, rfl⟩ : ∃ m, k = m + 1 := ⟨k - 1, by omega⟩
    simp only [basculelaw01_WireRows.l0]
    rw [List.take_of_length_le (by omega)] at hw ⊢
    rw [if_neg (by omega)]
    exact rows_l1 l hw hl l.length k 0 (by omega) (by omega)
  | succ d ih =>
    intro k i hi hw hk
    obtain ⟨k, rfl⟩ : ∃ m, k = m + 1 := ⟨k - 1, by omega⟩
    simp only [basculelaw01_WireRows.l0]
    have hlen := words_length (l.take i)
    rw [List.length_take, show min i l.length = i from by omega] at hlen
    have hw1 : wrap64 ((i : Int) + 1) = ((i + 1 : Nat) : Int) := by rw [wrap64_id _ (by omega) (by omega)]; omega
    rw [if_pos (by omega), if_pos (by omega), rd_nat i (by omega), is_f]
    by_cases hx : 0 ≤ l[i] ∧ l[i] ≤ 65535
    · rw [put_f _ _ hx (by omega)]
      simp only [Option.bind_some]
      rw [if_pos (by simp [hx]), if_pos trivial, if_pos (by rw [wrap64_id _ (by omega) (by omega), List.length_append]; simp only [List.length_cons, List.length_nil]; omega), hw1, ← words_snoc, ← take_snoc_ l i (by omega)]
      refine ih k (i + 1) (by omega) ?_ (by omega)
      rw [take_snoc_ l i (by omega)]
      intro y hy
      rcases List.mem_append.1 hy with h | h
      · exact hw y h
      · simp at h; rw [h]; exact hx
    · rw [put_no _ _ hx]
      simp only [Option.bind_some]
      rw [if_neg (by simp; omega)]
      simp [basculelaw01_awake.f]

theorem WireRows : basculelaw01_WireRows.Pure := by
  intro l _ _ _
  refine ⟨2 * l.length + 10, ?_⟩
  unfold basculelaw01_WireRows.f
  by_cases hl : (l.length : Int) > 500
  · rw [if_pos hl]
  · rw [if_neg hl]
    have := rows_l0 l (by omega) l.length (2 * l.length + 10) 0 (by omega) (by intro x hx; simp at hx) (by omega)
    simpa [words] using this
end Go.Proofs.Ytmbiofcibnpccaa.Pure

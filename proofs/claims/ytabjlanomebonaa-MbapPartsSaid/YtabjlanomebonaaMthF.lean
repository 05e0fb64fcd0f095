/- Plain words of frames: however bytes are parted, the same frames. -/
import Derived.Test.YtabjlanomebonaaStrB
namespace Go.Proofs.Ytabjlanomebonaa.MthF
open Go.RowKit Go.Proofs.YtabjlanomebonaaW.PrintWords Go.Proofs.Ytabjlanomebonaa.ExtC Go.Proofs.Ytabjlanomebonaa.StrA Go.Proofs.Ytabjlanomebonaa.StrB
set_option linter.unusedVariables false
theorem rd_app (a b : List Int) (i : Int) (h0 : 0 ≤ i) (h : i < a.length) : rd (a ++ b) i = rd a i := by
  unfold rd
  rw [List.getD_eq_getElem?_getD, List.getD_eq_getElem?_getD, List.getElem?_append_left (by omega)]
theorem wd_app (a b : List Int) (i : Int) (h0 : 0 ≤ i) (h : i + 2 ≤ a.length) : wd (a ++ b) i = wd a i := by
  unfold wd
  rw [rd_app a b i h0 (by omega), rd_app a b (i + 1) (by omega) (by omega)]
theorem bad_app (a b : List Int) (h : 6 ≤ a.length) : bad (a ++ b) ↔ bad a := by
  unfold bad
  rw [wd_app a b 2 (by omega) (by omega), wd_app a b 4 (by omega) (by omega)]
theorem not_bad {b : List Int} (h : ¬ bad b) : wd b 2 = 0 ∧ 2 ≤ wd b 4 ∧ wd b 4 ≤ 254 :=
  ⟨Classical.byContradiction fun a => h (.inl a), Classical.byContradiction fun a => h (.inr (.inl (by omega))), Classical.byContradiction fun a => h (.inr (.inr (by omega)))⟩
theorem rest_lt {b : List Int} (h6 : ¬ b.length < 6) (h : ¬ bad b) (hs : ¬ (b.length : Int) < 6 + wd b 4) : (restOf b).length + 8 ≤ b.length := by
  have := not_bad h
  unfold restOf
  rw [List.length_drop]
  omega
theorem allF_fuel : ∀ (k k' : Nat) (b : List Int), b.length < k → b.length < k' → allF k b = allF k' b
  | 0, _, _, h, _ => by omega
  | k + 1, 0, _, _, h => by omega
  | k + 1, k' + 1, b, h, h' => by
    unfold allF
    by_cases h6 : b.length < 6
    · rw [if_pos h6, if_pos h6]
    rw [if_neg h6, if_neg h6]
    by_cases hb : bad b
    · rw [if_pos hb, if_pos hb]
    rw [if_neg hb, if_neg hb]
    by_cases hs : (b.length : Int) < 6 + wd b 4
    · rw [if_pos hs, if_pos hs]
    rw [if_neg hs, if_neg hs]
    have := rest_lt h6 hb hs
    rw [allF_fuel k k' (restOf b) (by omega) (by omega)]
theorem full_app {a : List Int} (b : List Int) (h6 : ¬ a.length < 6) (hb : ¬ bad a) (hs : ¬ (a.length : Int) < 6 + wd a 4) :
    pduOf (a ++ b) = pduOf a ∧ restOf (a ++ b) = restOf a ++ b ∧ wd (a ++ b) 0 = wd a 0 ∧ rd (a ++ b) 6 = rd a 6 := by
  have hn := not_bad hb
  have e4 := wd_app a b 4 (by omega) (by omega)
  refine ⟨?_, ?_, wd_app a b 0 (by omega) (by omega), rd_app a b 6 (by omega) (by omega)⟩
  · unfold pduOf
    rw [e4, List.take_append_of_le_length (by omega)]
  · unfold restOf
    rw [e4, List.drop_append_of_le_length (by omega)]
/-- Bytes that come in two parts. -/
theorem allF_parts : ∀ (k : Nat) (a b : List Int) (f1 : List PZ.S37) (r1 : List Int) (br : Bool), a.length < k → allF k a = (f1, r1, br) →
    (br = true → r1 = [] ∧ ∀ k', a.length + b.length < k' → allF k' (a ++ b) = (f1, [], true)) ∧
    (br = false → r1.length ≤ a.length ∧ ∀ k', a.length + b.length < k' → allF k' (a ++ b) = (f1 ++ (allF k' (r1 ++ b)).1, (allF k' (r1 ++ b)).2))
  | 0, _, _, _, _, _, h, _ => by omega
  | k + 1, a, b, f1, r1, br, h, he => by
    unfold allF at he
    by_cases h6 : a.length < 6
    · rw [if_pos h6] at he
      simp only [Prod.mk.injEq] at he
      obtain ⟨rfl, rfl, rfl⟩ := he
      exact ⟨fun x => by simp at x, fun _ => ⟨Nat.le_refl _, fun k' hk' => by simp⟩⟩
    rw [if_neg h6] at he
    by_cases hb : bad a
    · rw [if_pos hb] at he
      simp only [Prod.mk.injEq] at he
      obtain ⟨rfl, rfl, rfl⟩ := he
      refine ⟨fun _ => ⟨rfl, fun k' hk' => ?_⟩, fun x => by simp at x⟩
      obtain ⟨k', rfl⟩ : ∃ m, k' = m + 1 := ⟨k' - 1, by omega⟩
      unfold allF
      rw [if_neg (by rw [List.length_append]; omega), if_pos ((bad_app a b (by omega)).2 hb)]
    rw [if_neg hb] at he
    by_cases hs : (a.length : Int) < 6 + wd a 4
    · rw [if_pos hs] at he
      simp only [Prod.mk.injEq] at he
      obtain ⟨rfl, rfl, rfl⟩ := he
      exact ⟨fun x => by simp at x, fun _ => ⟨Nat.le_refl _, fun k' hk' => by simp⟩⟩
    rw [if_neg hs] at he
    have hlt := rest_lt h6 hb hs
    obtain ⟨e1, e2, e3, e4⟩ := full_app b h6 hb hs
    have hn := not_bad hb
    have e5 := wd_app a b 4 (by omega) (by omega)
    have hnb : ¬ bad (a ++ b) := fun x => hb ((bad_app a b (by omega)).1 x)
    have hns : ¬ ((a ++ b).length : Int) < 6 + wd (a ++ b) 4 := by rw [List.length_append, e5]; push_cast; omega
    have hn6 : ¬ (a ++ b).length < 6 := by rw [List.length_append]; omega
    have hstep : ∀ k', allF (k' + 1) (a ++ b) = (⟨wd a 0, rd a 6, pduOf a⟩ :: (allF k' (restOf a ++ b)).1, (allF k' (restOf a ++ b)).2) := by
      intro k'
      rw [show allF (k' + 1) (a ++ b) = _ from by unfold allF; rw [if_neg hn6, if_neg hnb, if_neg hns], e1, e2, e3, e4]
    have ih := allF_parts k (restOf a) b (allF k (restOf a)).1 (allF k (restOf a)).2.1 (allF k (restOf a)).2.2 (by omega) rfl
    simp only [Prod.mk.injEq] at he
    obtain ⟨rfl, he2⟩ := he
    have e6 : (allF k (restOf a)).2.1 = r1 := by rw [he2]
    have e7 : (allF k (restOf a)).2.2 = br := by rw [he2]
    rw [e6, e7] at ih
    refine ⟨fun x => ?_, fun x => ?_⟩
    · obtain ⟨i1, i2⟩ := ih.1 x
      refine ⟨i1, fun k' hk' => ?_⟩
      obtain ⟨k', rfl⟩ : ∃ m, k' = m + 1 := ⟨k' - 1, by omega⟩
      rw [hstep, i2 k' (by omega)]
    · obtain ⟨i1, i2⟩ := ih.2 x
      refine ⟨by omega, fun k' hk' => ?_⟩
      obtain ⟨k', rfl⟩ : ∃ m, k' = m + 1 := ⟨k' - 1, by omega⟩
      rw [hstep, i2 k' (by omega), allF_fuel k' (k' + 1) (r1 ++ b) (by rw [List.length_append]; omega) (by rw [List.length_append]; omega)]
      rfl
theorem allF_rest : ∀ (k : Nat) (a : List Int), (allF k a).2.1.length ≤ a.length
  | 0, a => Nat.le_refl _
  | k + 1, a => by
    unfold allF
    by_cases h6 : a.length < 6
    · rw [if_pos h6]; exact Nat.le_refl _
    rw [if_neg h6]
    by_cases hb : bad a
    · rw [if_pos hb]; simp
    rw [if_neg hb]
    by_cases hs : (a.length : Int) < 6 + wd a 4
    · rw [if_pos hs]; exact Nat.le_refl _
    rw [if_neg hs]
    have := rest_lt h6 hb hs
    have := allF_rest k (restOf a)
    show (allF k (restOf a)).2.1.length ≤ a.length
    omega
theorem allF_len : ∀ (k : Nat) (a : List Int), (allF k a).1.length ≤ a.length
  | 0, a => by simp [allF]
  | k + 1, a => by
    unfold allF
    by_cases h6 : a.length < 6
    · rw [if_pos h6]; simp
    rw [if_neg h6]
    by_cases hb : bad a
    · rw [if_pos hb]; simp
    rw [if_neg hb]
    by_cases hs : (a.length : Int) < 6 + wd a 4
    · rw [if_pos hs]; simp
    rw [if_neg hs]
    have := rest_lt h6 hb hs
    have := allF_len k (restOf a)
    simp only [List.length_cons]
    omega
theorem allF_bytes : ∀ (k : Nat) (a : List Int), Bytes a → Bytes (allF k a).2.1
  | 0, a, h => h
  | k + 1, a, h => by
    unfold allF
    by_cases h6 : a.length < 6
    · rw [if_pos h6]; exact h
    rw [if_neg h6]
    by_cases hb : bad a
    · rw [if_pos hb]; intro x hx; simp at hx
    rw [if_neg hb]
    by_cases hs : (a.length : Int) < 6 + wd a 4
    · rw [if_pos hs]; exact h
    rw [if_neg hs]
    exact allF_bytes k (restOf a) (fun x hx => h x (List.mem_of_mem_drop hx))
end Go.Proofs.Ytabjlanomebonaa.MthF

/- The reference's Parse, in plain words. -/
import Derived.Test.YtocicifgglkaeaaZP5
namespace Go.Proofs.Ytocicifgglkaeaa.MthF
open Go.RowKit Go.Proofs.YtocicifgglkaeaaW.PrintWords Go.Proofs.YtocicifgglkaeaaW.PrintLast Go.Proofs.YtocicifgglkaeaaW.PrintMore Go.Proofs.Ytocicifgglkaeaa.ExtF Go.Proofs.Ytocicifgglkaeaa.ExtP Go.Proofs.Ytocicifgglkaeaa.ExtQ Go.Proofs.Ytocicifgglkaeaa.PP Go.Proofs.Ytocicifgglkaeaa.PQ Go.Proofs.Ytocicifgglkaeaa.ExtM Go.Proofs.Ytocicifgglkaeaa.MathP Go.Proofs.Ytocicifgglkaeaa.Mth Go.Proofs.Ytocicifgglkaeaa.MthD
set_option linter.unusedVariables false
set_option linter.unusedSimpArgs false
theorem rp_j1 (k : Nat) (hk : 20000 ≤ k) {b : List Int} (hb : Bytes b) (fn a1 a2 : Int) (l : List Int) (a4 a5 a6 : Int) :
 PR.basculeref03_Parse.j1 (k + 1) b fn a1 a2 l a4 a5 a6 = some (if mayB fn a1 a2 l a4 a5 a6 = true ∧ reqB fn a1 a2 l a4 a5 a6 = b then (fn, a1, a2, l, a4, a5, a6, true) else (0, 0, 0, [], 0, 0, 0, false)) := by
 rw [PR.basculeref03_Parse.j1, show basculeref03_May.f fn a1 a2 l a4 a5 a6 = some (mayB fn a1 a2 l a4 a5 a6) from rfl, Option.bind_some]
 cases hm : mayB fn a1 a2 l a4 a5 a6
 ·rw [if_neg Bool.false_ne_true, if_neg (fun x => Bool.false_ne_true x.1)]
 ·rw [if_pos rfl, rbytes_yes k fn a1 a2 l a4 a5 a6 (by omega) hm, Option.bind_some]
  by_cases e : reqB fn a1 a2 l a4 a5 a6 = b
  ·rw [if_pos (by rw [e]), if_pos ⟨rfl, e⟩]
  ·rw [if_neg (fun x => e ((str_eq (reqB_bytes (may_is hm)) hb).1 x)), if_neg (fun x => e x.2)]
theorem wrd (b : List Int) (n j : Nat) (h : n + 2 * j + 2 ≤ b.length) : rd (wordsOf (b.drop n)) (j : Int) = 256 * rd b ((n + 2 * j : Nat) : Int) + rd b ((n + 2 * j + 1 : Nat) : Int) := by
 refine (rd_nat j (by rw [wordsOf_len, List.length_drop]; omega)).trans ?_
 simp only [wordsOf, List.getElem_map, List.getElem_range]
 rw [rd_drop, rd_drop]
 rfl
theorem rparse (k : Nat) (hk : 200000 ≤ k) {b : List Int} (hb : Bytes b) (hbl : b.length ≤ 600) :
 ∃ f0 f1 f2 pl f4 f5 f6, (pdu_Parse.f b = some (f0, f1, f2, pl, f4, f5, f6, 0) ∧ PR.basculeref03_Parse.f k b = some (f0, f1, f2, pl, f4, f5, f6, true) ∧ pl.length ≤ 2000) ∨ (pdu_Parse.f b = some (0, 0, 0, [], 0, 0, 0, 4) ∧ PR.basculeref03_Parse.f k b = some (0, 0, 0, [], 0, 0, 0, false)) := by
 obtain ⟨k, rfl⟩ : ∃ m, k = m + 1 + 1 := ⟨k - 2, by omega⟩
 by_cases h5 : b.length < 5
 ·refine ⟨0, 0, 0, [], 0, 0, 0, .inr ⟨?_, ?_⟩⟩
  ·unfold pdu_Parse.f; rw [if_pos ⟨hb, by omega⟩, if_pos h5]
  ·unfold PR.basculeref03_Parse.f; rw [if_pos (by omega)]
 have n1 : PR.basculeref01_Number.f (b.drop 1) = some (rd (wordsOf (b.drop 1)) 0) := (number_drop b hb 1 (by omega)).trans (congrArg some (wrd b 1 0 (by omega)).symm)
 have n3 : PR.basculeref01_Number.f (b.drop 3) = some (rd (wordsOf (b.drop 1)) 1) := (number_drop b hb 3 (by omega)).trans (congrArg some (wrd b 1 1 (by omega)).symm)
 have n5 : 7 ≤ b.length → PR.basculeref01_Number.f (b.drop 5) = some (rd (wordsOf (b.drop 1)) 2) := fun h => (number_drop b hb 5 (by omega)).trans (congrArg some (wrd b 1 2 (by omega)).symm)
 have hw := words_hd (b.drop 1) (bytes_drop hb 1) (by rw [List.length_drop]; omega)
 have hL : (wordsOf (b.drop 1)).length = (b.length - 1) / 2 := by rw [wordsOf_len, List.length_drop]
 have hp : pdu_Parse.f b = some (parseG (rd b 0) (rd (wordsOf (b.drop 1)) 0) b (wordsOf (b.drop 1))) := by unfold pdu_Parse.f; rw [if_pos ⟨hb, by omega⟩, if_neg h5]
 have r0 := bytes_rd hb 0
 unfold PR.basculeref03_Parse.f
 rw [if_neg (by omega), if_pos (by omega), if_pos (by omega), n1, Option.bind_some, if_pos (by omega), n3, Option.bind_some, wrap64_id (rd b 0) (by omega) (by omega), hp]
 generalize wordsOf (b.drop 1) = L at *
 generalize rd b 0 = fn at *
 generalize rd L 0 = a1 at *
 have e : (if fn = 1 then PR.basculeref03_Parse.j0 (k + 1 + 1) b (rd L 1) fn (fn == 1) fn a1 0 0 0 0 else if fn = 2 then PR.basculeref03_Parse.j0 (k + 1 + 1) b (rd L 1) fn (fn == 2) fn a1 0 0 0 0 else if fn = 3 then PR.basculeref03_Parse.j0 (k + 1 + 1) b (rd L 1) fn (fn == 3) fn a1 0 0 0 0 else PR.basculeref03_Parse.j0 (k + 1 + 1) b (rd L 1) fn (fn == 4) fn a1 0 0 0 0) = PR.basculeref03_Parse.j0 (k + 1 + 1) b (rd L 1) fn (decide (fn = 1 ∨ fn = 2 ∨ fn = 3 ∨ fn = 4)) fn a1 0 0 0 0 := by
  by_cases c1 : fn = 1
  ·rw [if_pos c1]; congr 1; rw [beq_dec, decide_eq_decide]; omega
  by_cases c2 : fn = 2
  ·rw [if_neg c1, if_pos c2]; congr 1; rw [beq_dec, decide_eq_decide]; omega
  by_cases c3 : fn = 3
  ·rw [if_neg c1, if_neg c2, if_pos c3]; congr 1; rw [beq_dec, decide_eq_decide]; omega
  rw [if_neg c1, if_neg c2, if_neg c3]; congr 1; rw [beq_dec, decide_eq_decide]; omega
 rw [e]
 have core : ∀ {a2 vs a4 a5 a6 r}, cand fn b L = (a2, vs, a4, a5, a6) → r = some (if mayB fn a1 a2 vs a4 a5 a6 = true ∧ reqB fn a1 a2 vs a4 a5 a6 = b then (fn, a1, a2, vs, a4, a5, a6, true) else (0, 0, 0, [], 0, 0, 0, false)) → ∃ f0 f1 f2 pl f4 f5 f6, (some (parseG fn a1 b L) = some (f0, f1, f2, pl, f4, f5, f6, 0) ∧ r = some (f0, f1, f2, pl, f4, f5, f6, true) ∧ pl.length ≤ 2000) ∨ (some (parseG fn a1 b L) = some (0, 0, 0, [], 0, 0, 0, 4) ∧ r = some (0, 0, 0, [], 0, 0, 0, false)) := by
  intro a2 vs a4 a5 a6 r hc hr
  by_cases h : mayB fn a1 a2 vs a4 a5 a6 = true ∧ reqB fn a1 a2 vs a4 a5 a6 = b
  ·rw [if_pos h] at hr
   have := (may_is h.1).len
   exact ⟨_, _, _, _, _, _, _, .inl ⟨congrArg some (parseG_yes hc h), hr, by omega⟩⟩
  ·rw [if_neg h] at hr
   exact ⟨0, 0, 0, [], 0, 0, 0, .inr ⟨congrArg some (parseG_no hc h), hr⟩⟩
 have none_ : ∀ {a2 vs a4 a5 a6}, cand fn b L = (a2, vs, a4, a5, a6) → ¬ (mayB fn a1 a2 vs a4 a5 a6 = true ∧ reqB fn a1 a2 vs a4 a5 a6 = b) → ∃ f0 f1 f2 pl f4 f5 f6, (some (parseG fn a1 b L) = some (f0, f1, f2, pl, f4, f5, f6, 0) ∧ some ((0 : Int), (0 : Int), (0 : Int), ([] : List Int), (0 : Int), (0 : Int), (0 : Int), false) = some (f0, f1, f2, pl, f4, f5, f6, true) ∧ pl.length ≤ 2000) ∨ (some (parseG fn a1 b L) = some (0, 0, 0, [], 0, 0, 0, 4) ∧ some ((0 : Int), (0 : Int), (0 : Int), ([] : List Int), (0 : Int), (0 : Int), (0 : Int), false) = some (0, 0, 0, [], 0, 0, 0, false)) := by
  intro a2 vs a4 a5 a6 hc h
  exact ⟨0, 0, 0, [], 0, 0, 0, .inr ⟨congrArg some (parseG_no hc h), rfl⟩⟩
 have hlen : ∀ {a2 vs a4 a5 a6}, mayB fn a1 a2 vs a4 a5 a6 = true ∧ reqB fn a1 a2 vs a4 a5 a6 = b → b.length = if fn = 15 then 6 + (vs.length + 7) / 8 else if fn = 16 then 6 + 2 * vs.length else if fn = 22 then 7 else if fn = 23 then 10 + 2 * vs.length else 5 := fun h => by
  have := reqB_len (may_is h.1)
  rw [h.2] at this
  exact this
 rw [PR.basculeref03_Parse.j0]
 by_cases c14 : fn = 1 ∨ fn = 2 ∨ fn = 3 ∨ fn = 4
 ·rw [if_pos (decide_eq_true c14)]
  exact core (a2 := rd L 1) (vs := []) (a4 := 0) (a5 := 0) (a6 := 0) (by unfold cand; rw [if_neg (by omega), if_neg (by omega), if_neg (by omega), if_neg (by omega), if_neg (by omega), if_neg (by omega)]) (rp_j1 k (by omega) hb _ _ _ _ _ _ _)
 rw [if_neg (by rw [decide_eq_true_eq]; exact c14)]
 by_cases d5 : fn = 5
 ·rw [if_pos d5]
  have ht : wrap64 (Int.tdiv (rd L 1) 65280) = rd L 1 / 65280 := by rw [Int.tdiv_eq_ediv_of_nonneg (by omega), wrap64_id _ (by omega) (by omega)]
  rw [ht]
  exact core (by unfold cand; rw [if_pos d5]) (rp_j1 k (by omega) hb _ _ _ _ _ _ _)
 rw [if_neg d5]
 by_cases d6 : fn = 6
 ·rw [if_pos d6]
  exact core (by unfold cand; rw [if_neg d5, if_pos d6]) (rp_j1 k (by omega) hb _ _ _ _ _ _ _)
 rw [if_neg d6]
 by_cases d15 : fn = 15
 ·rw [if_pos d15]
  have hc : cand fn b L = (rd L 1, unp (b.drop (min 6 b.length)) (rd L 1), 0, 0, 0) := by unfold cand; rw [if_neg d5, if_neg d6, if_neg (by omega), if_pos d15]
  by_cases h6 : b.length < 6
  ·rw [if_pos (by omega)]
   exact none_ hc (fun h => by have := hlen h; rw [if_pos d15] at this; omega)
  rw [if_neg (by omega), wrap64_id ((b.length : Int) - 6) (by omega) (by omega), wrap64_id (8 * ((b.length : Int) - 6)) (by omega) (by omega)]
  rw [show min 6 b.length = 6 by omega] at hc
  have hd6 : ((b.drop 6).length : Int) = (b.length : Int) - 6 := by rw [List.length_drop]; omega
  by_cases h8 : rd L 1 > 8 * ((b.length : Int) - 6)
  ·rw [if_pos h8]
   have hu : unp (b.drop 6) (rd L 1) = [] := by unfold unp; rw [if_neg (by omega)]
   rw [hu] at hc
   exact none_ hc (fun h => by have := (may_is h.1).many (.inl d15); simp at this)
  rw [if_neg h8, if_pos (by omega)]
  have hu : unp (b.drop 6) (rd L 1) = unbits (b.drop 6) (rd L 1).toNat := by unfold unp; rw [if_pos (by omega)]
  have hf : PR.basculeref01_Unpack.f (k + 1) (b.drop 6) (rd L 1) = some (unp (b.drop 6) (rd L 1)) := by
   rw [hu]
   have h0 : rd L 1 = (((rd L 1).toNat : Nat) : Int) := by omega
   by_cases hbig : 20 * (rd L 1).toNat + 1 ≤ k + 1
   ·have := refunpack_f (b.drop 6) (bytes_drop hb 6) (rd L 1).toNat (by omega) (by omega) (k + 1) hbig
    rw [← h0] at this
    exact this
   ·exfalso
    omega
  rw [hf, Option.bind_some]
  exact core hc (rp_j1 k (by omega) hb _ _ _ _ _ _ _)
 rw [if_neg d15]
 by_cases d16 : fn = 16
 ·rw [if_pos d16]
  have hc : cand fn b L = (rd L 1, wordsOf (b.drop (min 6 b.length)), 0, 0, 0) := by unfold cand; rw [if_neg d5, if_neg d6, if_neg (by omega), if_neg d15, if_neg (by omega), if_pos d16]
  by_cases h6 : b.length < 6
  ·rw [if_pos (by omega)]
   exact none_ hc (fun h => by have := hlen h; rw [if_neg d15, if_pos d16] at this; omega)
  rw [if_neg (by omega), if_pos (by omega), rread_f _ (bytes_drop hb 6) (by rw [List.length_drop]; omega) (k + 1) (by rw [List.length_drop]; omega), Option.bind_some]
  rw [show min 6 b.length = 6 by omega] at hc
  exact core hc (rp_j1 k (by omega) hb _ _ _ _ _ _ _)
 rw [if_neg d16]
 by_cases d22 : fn = 22
 ·rw [if_pos d22]
  have hc : cand fn b L = (0, [], 0, rd L 1, if 2 < L.length then rd L 2 else 0) := by unfold cand; rw [if_neg d5, if_neg d6, if_pos d22]
  by_cases h7 : b.length < 7
  ·rw [if_pos (by omega)]
   exact none_ hc (fun h => by have := hlen h; rw [if_neg d15, if_neg d16, if_pos d22] at this; omega)
  rw [if_neg (by omega), if_pos (by omega), n5 (by omega), Option.bind_some]
  rw [if_pos (by omega)] at hc
  exact core hc (rp_j1 k (by omega) hb _ _ _ _ _ _ _)
 rw [if_neg d22]
 by_cases d23 : fn = 23
 ·rw [if_pos d23]
  have hc : cand fn b L = (rd L 1, wordsOf (b.drop (min 10 b.length)), (if 2 < L.length then rd L 2 else 0), 0, 0) := by unfold cand; rw [if_neg d5, if_neg d6, if_neg d22, if_neg d15, if_pos d23]
  by_cases h10 : b.length < 10
  ·rw [if_pos (by omega)]
   exact none_ hc (fun h => by have := hlen h; rw [if_neg d15, if_neg d16, if_neg d22, if_pos d23] at this; omega)
  rw [if_neg (by omega), if_pos (by omega), n5 (by omega), Option.bind_some, if_pos (by omega), rread_f _ (bytes_drop hb 10) (by rw [List.length_drop]; omega) (k + 1) (by rw [List.length_drop]; omega), Option.bind_some]
  rw [show min 10 b.length = 10 by omega, if_pos (by omega)] at hc
  exact core hc (rp_j1 k (by omega) hb _ _ _ _ _ _ _)
 rw [if_neg d23, rp_j1 k (by omega) hb]
 have hno : ∀ a2 vs a4 a5 a6, ¬ (mayB fn a1 a2 vs a4 a5 a6 = true ∧ reqB fn a1 a2 vs a4 a5 a6 = b) := fun a2 vs a4 a5 a6 h => by have := (may_is h.1).fns; omega
 rw [if_neg (hno _ _ _ _ _)]
 exact none_ (by unfold cand; rw [if_neg d5, if_neg d6, if_neg d22, if_neg d15, if_neg d23, if_neg d16]) (hno _ _ _ _ _)
end Go.Proofs.Ytocicifgglkaeaa.MthF
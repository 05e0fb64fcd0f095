/- The reference's AnswerParse, in plain words. -/
import Derived.Test.YtocicifgglkaeaaZR5
namespace Go.Proofs.Ytocicifgglkaeaa.MthE
open Go.RowKit Go.Proofs.YtocicifgglkaeaaW.PrintWords Go.Proofs.YtocicifgglkaeaaW.PrintLast Go.Proofs.YtocicifgglkaeaaW.PrintMore Go.Proofs.Ytocicifgglkaeaa.ExtF Go.Proofs.Ytocicifgglkaeaa.ExtP Go.Proofs.Ytocicifgglkaeaa.ExtQ Go.Proofs.Ytocicifgglkaeaa.PP Go.Proofs.Ytocicifgglkaeaa.PQ Go.Proofs.Ytocicifgglkaeaa.ExtM Go.Proofs.Ytocicifgglkaeaa.MathP Go.Proofs.Ytocicifgglkaeaa.Mth Go.Proofs.Ytocicifgglkaeaa.MthD
set_option linter.unusedVariables false
set_option linter.unusedSimpArgs false
def rapT (o : Option (List Int × Int)) : List Int × Int × Bool := match o with | some x => (x.1, x.2, true) | none => ([], 0, false)
theorem rap_j1 (k : Nat) (hk : 30000 ≤ k) {fn a1 a2 : Int} {l : List Int} {a4 a5 a6 : Int} (h : mayB fn a1 a2 l a4 a5 a6 = true) (b : List Int) (hb : Bytes b) (al : List Int) (code : Int) (hal : al.length ≤ 2500) :
 PR.basculeref03_AnswerParse.j1 (k + 1) b fn a1 a2 l a4 a5 a6 al code = some (rapT (if ansMayB fn a2 al code = true ∧ ansB fn a1 a2 l a4 a5 a6 al code = b then some (al, code) else none)) := by
 have I := may_is h
 have hlen := I.len
 rw [PR.basculeref03_AnswerParse.j1, rans_f k fn a1 a2 l a4 a5 a6 al code (by omega) (by omega), Option.bind_some]
 cases hm : ansMayB fn a2 al code
 ·rw [if_neg Bool.false_ne_true, if_neg (fun x => Bool.false_ne_true x.1)]
  rfl
 ·have J := ans_is hm
  rw [if_pos rfl, ransbytes_yes k fn a1 a2 l a4 a5 a6 al code (by omega) h hm hal, Option.bind_some]
  by_cases e : ansB fn a1 a2 l a4 a5 a6 al code = b
  ·rw [if_pos (by rw [e]), if_pos ⟨rfl, e⟩]; rfl
  ·rw [if_neg (fun x => e ((str_eq (ansB_bytes I J) hb).1 x)), if_neg (fun x => e x.2)]; rfl
theorem rap_yes (k : Nat) (hk : 200000 ≤ k) {fn a1 a2 : Int} {l : List Int} {a4 a5 a6 : Int} (h : mayB fn a1 a2 l a4 a5 a6 = true) (b : List Int) (hb : Bytes b) (hbl : b.length ≤ 4000) :
 PR.basculeref03_AnswerParse.f k fn a1 a2 l a4 a5 a6 b = some (rapT (ansP fn a1 a2 l a4 a5 a6 b)) := by
 have I := may_is h
 have hlen := I.len
 have hfn := I.fns
 obtain ⟨k, rfl⟩ : ∃ m, k = m + 1 + 1 := ⟨k - 2, by omega⟩
 unfold PR.basculeref03_AnswerParse.f ansP
 by_cases h2 : b.length < 2
 ·rw [if_pos (by omega), if_pos h2]; rfl
 have r0 := bytes_rd hb 0
 have r1 := bytes_rd hb 1
 rw [if_neg (by omega), if_pos (by omega), if_neg h2, wrap64_id (fn + 128) (by omega) (by omega), wrap64_id (rd b 0) (by omega) (by omega), wrap64_id (rd b 1) (by omega) (by omega)]
 by_cases e0 : rd b 0 = fn + 128
 ·rw [if_pos e0, if_pos (by omega)]
  by_cases e1 : rd b 1 = 0
  ·rw [if_pos e1, if_pos ⟨e0, e1⟩]; rfl
  ·rw [if_neg e1, if_neg (fun x => e1 x.2), rap_j1 (k + 1) (by omega) h b hb [] (rd b 1) (by simp)]
   unfold candA
   rw [if_pos e0]
 ·have hc0 : ∀ x, candA fn a2 b = x → x = (if fn = 1 ∨ fn = 2 then (unp (b.drop 2) a2, 0) else if fn = 3 ∨ fn = 4 ∨ fn = 23 then (wordsOf (b.drop 2), 0) else ([], 0)) := by
   intro x hx; rw [← hx]; unfold candA; rw [if_neg e0]
  have hce := hc0 _ rfl
  have hn01 : ¬ (rd b 0 = fn + 128 ∧ rd b 1 = 0) := fun x => e0 x.1
  rw [if_neg e0, if_neg hn01]
  have hd := bytes_drop hb 2
  have e : (if fn = 1 then PR.basculeref03_AnswerParse.j0 (k + 1 + 1) b true fn a1 a2 l a4 a5 a6 0 else PR.basculeref03_AnswerParse.j0 (k + 1 + 1) b (fn == 2) fn a1 a2 l a4 a5 a6 0) = PR.basculeref03_AnswerParse.j0 (k + 1 + 1) b (decide (fn = 1 ∨ fn = 2)) fn a1 a2 l a4 a5 a6 0 := by
   by_cases c1 : fn = 1
   ·rw [if_pos c1]; congr 1; rw [eq_comm, decide_eq_true_eq]; exact Or.inl c1
   ·rw [if_neg c1]; congr 1; rw [beq_dec, decide_eq_decide]; omega
  rw [e, PR.basculeref03_AnswerParse.j0]
  by_cases c12 : fn = 1 ∨ fn = 2
  ·have hcn := I.cnt (by omega)
   have hlen2 : ((b.drop 2).length : Int) = (b.length : Int) - 2 := by rw [List.length_drop]; omega
   rw [if_pos (decide_eq_true c12), wrap64_id ((b.length : Int) - 2) (by omega) (by omega), wrap64_id (8 * ((b.length : Int) - 2)) (by omega) (by omega), if_pos (show (2 : Int) ≤ (b.length : Int) by omega)]
   rw [hce, if_pos c12]
   by_cases hc : a2 > 8 * ((b.length : Int) - 2)
   ·rw [if_pos hc, if_neg]
    ·rfl
    ·intro x
     have x1 : ansMayB fn a2 (unp (b.drop 2) a2) 0 = true := x.1
     have hu : unp (b.drop 2) a2 = [] := by unfold unp; rw [if_neg (by omega)]
     rw [hu] at x1
     have J := (ans_is x1).len rfl (by omega)
     simp at J
     omega
   ·rw [if_neg hc]
    have hu : unp (b.drop 2) a2 = unbits (b.drop 2) a2.toNat := by unfold unp; rw [if_pos (by omega)]
    obtain ⟨m, rfl⟩ := Int.eq_ofNat_of_zero_le (show 0 ≤ a2 by omega)
    rw [refunpack_f (b.drop 2) hd m (by omega) (by omega) (k + 1) (by omega), Option.bind_some, rap_j1 k (by omega) h b hb _ 0 (by rw [unbits_len]; omega), hu]
    rfl
  rw [if_neg (by rw [decide_eq_true_eq]; exact c12)]
  by_cases c3 : fn = 3 ∨ fn = 4 ∨ fn = 23
  ·have hw := rread_f _ hd (by rw [List.length_drop]; omega) (k + 1) (by rw [List.length_drop]; omega)
   have hj := rap_j1 k (by omega) h b hb (wordsOf (b.drop 2)) 0 (by rw [wordsOf_len, List.length_drop]; omega)
   rw [hce, if_neg c12, if_pos c3]
   rw [← hj]
   by_cases d3 : fn = 3
   ·rw [if_pos d3, if_pos (by omega), hw, Option.bind_some]
   by_cases d4 : fn = 4
   ·rw [if_neg d3, if_pos d4, if_pos (by omega), hw, Option.bind_some]
   rw [if_neg d3, if_neg d4, if_pos (by omega), if_pos (by omega), hw, Option.bind_some]
  ·rw [if_neg (by omega), if_neg (by omega), if_neg (by omega), rap_j1 k (by omega) h b hb [] 0 (by simp)]
   rw [hce, if_neg c12, if_neg c3]
end Go.Proofs.Ytocicifgglkaeaa.MthE
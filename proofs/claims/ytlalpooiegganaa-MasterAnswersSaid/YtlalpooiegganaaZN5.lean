/- The words, contracts and walks that this claim leans on, put together by a program of this session (part 5). -/
import Derived.Test.YtlalpooiegganaaZN4
section
namespace Go.Proofs.Ytlalpooiegganaa.Mth
open Go.RowKit Go.Proofs.YtlalpooiegganaaW.PrintWords Go.Proofs.YtlalpooiegganaaW.PrintLast Go.Proofs.YtlalpooiegganaaW.PrintMore Go.Proofs.Ytlalpooiegganaa.Ext Go.Proofs.Ytlalpooiegganaa.ExtF Go.Proofs.Ytlalpooiegganaa.PP Go.Proofs.Ytlalpooiegganaa.PG Go.Proofs.Ytlalpooiegganaa.ExtM Go.Proofs.Ytlalpooiegganaa.MathP Go.Proofs.Ytlalpooiegganaa.PG
set_option linter.unusedVariables false
set_option linter.unusedSimpArgs false
theorem join_bytes (x y : Int) (hx : 0 ≤ x ∧ x < 256) (hy : 0 ≤ y ∧ y < 256) : Go.bits .or .i64 (wrap64 ((wrap64 x) * 256)) (wrap64 y) = 256 * x + y := by
 rw [wrap64_id x (by omega) (by omega), wrap64_id y (by omega) (by omega), wrap64_id (x * 256) (by omega) (by omega)]
 obtain ⟨m, rfl⟩ := Int.eq_ofNat_of_zero_le hx.1
 obtain ⟨n, rfl⟩ := Int.eq_ofNat_of_zero_le hy.1
 exact (show ∀ m n : Fin 256, Go.bits .or .i64 ((m.1 : Int) * 256) (n.1 : Int) = 256 * (m.1 : Int) + (n.1 : Int) by decide +kernel) ⟨m, by omega⟩ ⟨n, by omega⟩
theorem bytes_drop {l : List Int} (hb : Bytes l) (n : Nat) : Bytes (l.drop n) := fun x hx => hb x (List.mem_of_mem_drop hx)
theorem at_f (l : List Int) (hb : Bytes l) (hl : l.length ≤ 1000000000) (i : Nat) (h : i + 1 < l.length) : wire_At.f l (i : Int) = some (256 * rd l (i : Int) + rd l ((i + 1 : Nat) : Int), 0) := by
 unfold wire_At.f
 have hw : wrap64 ((i : Int) + 1) = ((i + 1 : Nat) : Int) := by rw [wrap64_id _ (by omega) (by omega)]; omega
 rw [if_neg (by omega), wrap64_id ((l.length : Int) - 2) (by omega) (by omega), if_neg (by omega), if_pos (by omega), if_pos (by omega), hw, if_pos (by omega), if_pos (by omega), join_bytes _ _ (bytes_rd hb _) (bytes_rd hb _)]
def wordsOf (l : List Int) : List Int := (List.range (l.length / 2)).map fun j => 256 * rd l ((2 * j : Nat) : Int) + rd l ((2 * j + 1 : Nat) : Int)
theorem wordsOf_len (l : List Int) : (wordsOf l).length = l.length / 2 := by simp [wordsOf]
theorem pwords_l0 (l : List Int) (hb : Bytes l) (hl : l.length ≤ 1000000000) : ∀ (d j k : Nat), j + d = l.length / 2 → d + 1 ≤ k →
 pdu_words.l0 k l ((List.range j).map fun j => 256 * rd l ((2 * j : Nat) : Int) + rd l ((2 * j + 1 : Nat) : Int)) ((2 * j : Nat) : Int) = some (wordsOf l)
 | 0, j, k, hj, hk => by
  obtain ⟨k, rfl⟩ := Nat.exists_eq_add_of_le' (show 1 ≤ k by omega)
  unfold pdu_words.l0
  rw [wrap64_id _ (by omega) (by omega), if_neg (by omega)]
  unfold wordsOf
  rw [← hj, Nat.add_zero]
 | d + 1, j, k, hj, hk => by
  obtain ⟨k, rfl⟩ := Nat.exists_eq_add_of_le' (show 1 ≤ k by omega)
  unfold pdu_words.l0
  have hw : wrap64 (((2 * j : Nat) : Int) + 2) = ((2 * (j + 1) : Nat) : Int) := by rw [wrap64_id _ (by omega) (by omega)]; omega
  rw [wrap64_id _ (by omega) (by omega), if_pos (by omega), at_f l hb hl (2 * j) (by omega), Option.bind_some, if_pos (by simp; omega), hw]
  have := pwords_l0 l hb hl d (j + 1) k (by omega) (by omega)
  rw [List.range_succ, List.map_append] at this
  exact this
theorem pwords_f (l : List Int) (hb : Bytes l) (hl : l.length ≤ 1000000000) (k : Nat) (hk : l.length + 1 ≤ k) : pdu_words.f k l = some (wordsOf l) := by
 unfold pdu_words.f
 exact pwords_l0 l hb hl (l.length / 2) 0 k (by omega) (by omega)
theorem rd_nat {l : List Int} (i : Nat) (h : i < l.length) : rd l (i : Int) = l[i] := by simp [rd, List.getElem?_eq_getElem h]
theorem lays_rd (l : List Int) : ∀ j : Nat, j < l.length → rd (lays l) ((2 * j : Nat) : Int) = rd l (j : Int) / 256 ∧ rd (lays l) ((2 * j + 1 : Nat) : Int) = rd l (j : Int) % 256 := by
 induction l with
 | nil => intro j h; simp at h
 | cons x t ih =>
  intro j h
  have e : lays (x :: t) = x / 256 :: x % 256 :: lays t := rfl
  rw [e]
  cases j with
  | zero => exact ⟨rfl, rfl⟩
  | succ j =>
   have := ih j (by simpa using h)
   have key : ∀ (y z : Int) (s : List Int) (n : Nat), rd (y :: z :: s) ((n + 2 : Nat) : Int) = rd s (n : Int) := fun y z s n => by unfold rd; rw [Int.toNat_natCast, Int.toNat_natCast]; rfl
   have key1 : ∀ (y : Int) (s : List Int) (n : Nat), rd (y :: s) ((n + 1 : Nat) : Int) = rd s (n : Int) := fun y s n => by unfold rd; rw [Int.toNat_natCast, Int.toNat_natCast]; rfl
   rw [show 2 * (j + 1) = 2 * j + 2 from by omega, show 2 * j + 2 + 1 = (2 * j + 1) + 2 from by omega, key, key, key1]
   exact this
theorem words_lays {l : List Int} (hw : Words l) : wordsOf (lays l) = l := by
 apply List.ext_getElem
 ·rw [wordsOf_len, lays_len]; omega
 intro j h1 h2
 have hx := hw _ (List.getElem_mem h2)
 have := lays_rd l j h2
 rw [rd_nat j h2] at this
 simp only [wordsOf, List.getElem_map, List.getElem_range]
 rw [this.1, this.2]
 omega
theorem str_one {l m : List Int} (hl : Bytes l) (hm : Bytes m) (h2 : l.map (fun n => UInt8.ofNat n.toNat) = m.map (fun n => UInt8.ofNat n.toNat)) : l = m := by
 have back : ∀ {x : List Int}, Bytes x → (x.map (fun n => UInt8.ofNat n.toNat)).map (fun b => (b.toNat : Int)) = x := by
  intro x hx
  rw [List.map_map]
  conv => rhs; rw [← List.map_id x]
  apply List.map_congr_left
  intro n hn
  have := hx n hn
  simp only [Function.comp, id]
  rw [UInt8.toNat_ofNat']
  omega
 rw [← back hl, ← back hm, h2]
theorem str_eq {l m : List Int} (hl : Bytes l) (hm : Bytes m) : ((strOfNums l).toList = (strOfNums m).toList) ↔ l = m := by
 constructor
 ·intro h
  rw [ByteArray.toList_eq, ByteArray.toList_eq, strOfNums_data, strOfNums_data] at h
  exact str_one hl hm h
 ·intro h; rw [h]
theorem str_beq {l m : List Int} (hl : Bytes l) (hm : Bytes m) : ((strOfNums l).toList == (strOfNums m).toList) = decide (l = m) := by
 rw [Bool.eq_iff_iff]
 simp only [beq_iff_eq, decide_eq_true_eq]
 exact str_eq hl hm
theorem lays_bytes {l : List Int} (hw : Words l) : Bytes (lays l) := by
 intro x hx
 unfold lays at hx
 obtain ⟨n, hn, hx⟩ := List.mem_flatMap.1 hx
 have := hw n hn
 simp only [List.mem_cons, List.not_mem_nil, or_false] at hx
 rcases hx with rfl | rfl <;> omega
theorem bytes_app {a b : List Int} (ha : Bytes a) (hb : Bytes b) : Bytes (a ++ b) := by
 intro x hx
 rcases List.mem_append.1 hx with h | h
 ·exact ha x h
 ·exact hb x h
theorem bytes_cons {a : Int} {b : List Int} (ha : 0 ≤ a ∧ a < 256) (hb : Bytes b) : Bytes (a :: b) := by
 intro x hx
 rcases List.mem_cons.1 hx with rfl | h
 ·exact ha
 ·exact hb x h
theorem bytes_nil : Bytes [] := by intro x hx; cases hx
theorem packs_bytes {l : List Int} (hb : Bits l) : Bytes (packs l) := by
 intro x hx
 unfold packs at hx
 obtain ⟨j, _, rfl⟩ := List.mem_map.1 hx
 have := part_range hb (8 * j) 8
 omega
theorem counted_bytes {l : List Int} (hb : Bytes l) : Bytes ((l.length : Int) % 256 :: l) := bytes_cons (by omega) hb
theorem reqB_bytes {fn a1 a2 : Int} {l : List Int} {a4 a5 a6 : Int} (I : MayIs fn a1 a2 l a4 a5 a6) : Bytes (reqB fn a1 a2 l a4 a5 a6) := by
 have hlen := I.len
 have ha2 : (¬ (fn = 5 ∨ fn = 6 ∨ fn = 22)) → 0 ≤ a2 ∧ a2 ≤ 65535 := by
  intro h
  have := I.fns
  by_cases c : fn = 15 ∨ fn = 16
  ·have := I.cntl c; omega
  ·have := I.cnt (by omega); omega
 unfold reqB
 refine bytes_app (bytes_app (bytes_cons (by omega) bytes_nil) (lays_bytes (words1 I.addr))) ?_
 unfold tailB
 split
 ·next c =>
  have hb := bits_rd (I.bits (Or.inl c)) 0
  exact lays_bytes (words1 (by omega))
 split
 ·next c =>
  have h1 := I.one (Or.inr c)
  have hlt : 0 < l.length := by omega
  have hrd : rd l 0 = l[0] := by simp [rd, List.getElem?_eq_getElem hlt]
  exact lays_bytes (words1 (by rw [hrd]; exact I.wrds (Or.inl c) _ (List.getElem_mem hlt)))
 split
 ·exact lays_bytes (words2 I.m.1 I.m.2)
 split
 ·next c => exact bytes_app (lays_bytes (words1 (ha2 (by omega)))) (counted_bytes (packs_bytes (I.bits (Or.inr c))))
 split
 ·next c => exact bytes_app (lays_bytes (words3 (ha2 (by omega)) I.tow (by omega))) (counted_bytes (lays_bytes (I.wrds (by omega))))
 split
 ·next c => exact bytes_app (lays_bytes (words1 (ha2 (by omega)))) (counted_bytes (lays_bytes (I.wrds (by omega))))
 ·exact lays_bytes (words1 (ha2 (by omega)))
theorem reqB_len {fn a1 a2 : Int} {l : List Int} {a4 a5 a6 : Int} (I : MayIs fn a1 a2 l a4 a5 a6) : (reqB fn a1 a2 l a4 a5 a6).length =
 if fn = 15 then 6 + (l.length + 7) / 8 else if fn = 16 then 6 + 2 * l.length else if fn = 22 then 7 else if fn = 23 then 10 + 2 * l.length else 5 := by
 have hfn := I.fns
 unfold reqB tailB
 rcases hfn with rfl | rfl | rfl | rfl | rfl | rfl | rfl | rfl | rfl | rfl <;> simp [lays_len, packs_len] <;> omega
def ansMayB (fn a2 : Int) (al : List Int) (code : Int) : Bool :=
 if code = 0 then
  (if fn = 1 ∨ fn = 2 then decide ((al.length : Int) = a2) && decide (Bits al)
   else if fn = 3 ∨ fn = 4 ∨ fn = 23 then decide ((al.length : Int) = a2) && decide (Words al)
   else decide ((al.length : Int) = 0))
 else decide (1 ≤ code ∧ code ≤ 255) && decide ((al.length : Int) = 0)
def ansB (fn a1 a2 : Int) (l : List Int) (a4 a5 a6 : Int) (al : List Int) (code : Int) : List Int :=
 if code = 0 then
  (if fn = 1 ∨ fn = 2 then fn % 256 :: ((packs al).length : Int) % 256 :: packs al
   else if fn = 3 ∨ fn = 4 ∨ fn = 23 then fn % 256 :: ((lays al).length : Int) % 256 :: lays al
   else if fn = 15 ∨ fn = 16 then fn % 256 :: lays [a1, a2]
   else reqB fn a1 a2 l a4 a5 a6)
 else [fn + 128, code]
theorem psome_f (l : List Int) (lo hi m : Int) (hl : l.length ≤ 1000000000000) (k : Nat) (hk : l.length + 1 ≤ k) : pdu_some.f k l lo hi m = some (decide (lo ≤ (l.length : Int) ∧ (l.length : Int) ≤ hi) && decide (Low m l)) := by
 unfold pdu_some.f
 rw [within_f, Option.bind_some]
 by_cases h : lo ≤ (l.length : Int) ∧ (l.length : Int) ≤ hi
 ·rw [decide_eq_true h, if_pos rfl, all_f l m hl k hk, Option.bind_some, Bool.true_and]
 ·rw [decide_eq_false h, if_neg (by decide), Bool.false_and]
theorem decide_same (a b : Int) : decide (b ≤ a ∧ a ≤ b) = decide (a = b) := by rw [decide_eq_decide]; omega
theorem pans_f (k : Nat) (fn a1 a2 : Int) (l : List Int) (a4 a5 a6 : Int) (al : List Int) (code : Int) (hl : al.length ≤ 1000000000000) (hk : al.length + 10 ≤ k) :
 pdu_answer.f k fn a1 a2 l a4 a5 a6 al code = some (ansMayB fn a2 al code) := by
 obtain ⟨k, rfl⟩ : ∃ m, k = m + 1 := ⟨k - 1, by omega⟩
 unfold pdu_answer.f ansMayB
 by_cases hc : code = 0
 ·rw [if_pos hc, if_pos hc]
  have hj : ∀ b, pdu_answer.j0 (k + 1) fn b fn a1 a2 l a4 a5 a6 al code = if b = true then some (decide ((al.length : Int) = a2) && decide (Bits al)) else if fn = 3 ∨ fn = 4 ∨ fn = 23 then some (decide ((al.length : Int) = a2) && decide (Words al)) else some (decide ((al.length : Int) = 0)) := by
   intro b
   rw [pdu_answer.j0]
   rw [psome_f al a2 a2 1 hl k (by omega), psome_f al a2 a2 65535 hl k (by omega)]
   simp only [Option.bind_some]
   rw [decide_same, show decide (Low 1 al) = decide (Bits al) from by rw [decide_eq_decide]; exact low_one al, show decide (Low 65535 al) = decide (Words al) from rfl, beq_dec]
   by_cases c3 : fn = 3
   ·simp [c3]
   by_cases c4 : fn = 4
   ·simp [c4]
   by_cases c23 : fn = 23
   ·simp [c23]
   simp [c3, c4, c23]
  by_cases c1 : fn = 1
  ·rw [if_pos c1, hj, if_pos (by simp [c1]), if_pos (Or.inl c1)]
  rw [if_neg c1, hj]
  by_cases c2 : fn = 2
  ·rw [if_pos (by simp [c2]), if_pos (Or.inr c2)]
  have h12 : ¬ (fn = 1 ∨ fn = 2) := by omega
  rw [if_neg h12, if_neg (show ¬ ((fn == 2) = true) by simp [c2])]
  split <;> rfl
 ·rw [if_neg hc, if_neg hc, within_f, Option.bind_some]
  by_cases h : 1 ≤ code ∧ code ≤ 255
  ·rw [decide_eq_true h, if_pos rfl, Bool.true_and, beq_dec]
  ·rw [decide_eq_false h, if_neg (by decide), Bool.false_and]
theorem or_high : ∀ m : Fin 128, Go.bits .or .u8 (m.1 : Int) 128 = (m.1 : Int) + 128 := by decide +kernel
theorem or_high64 : ∀ m : Fin 128, Go.bits .or .i64 (m.1 : Int) 128 = (m.1 : Int) + 128 := by decide +kernel
theorem fn_or {fn : Int} (h : 0 ≤ fn ∧ fn < 128) : Go.bits .or .u8 (fn % 256) 128 = fn + 128 := by
 rw [show fn % 256 = fn from by omega]
 obtain ⟨m, rfl⟩ := Int.eq_ofNat_of_zero_le h.1
 exact or_high ⟨m, by omega⟩
theorem fn_or64 {fn : Int} (h : 0 ≤ fn ∧ fn < 128) : Go.bits .or .i64 fn 128 = fn + 128 := by
 obtain ⟨m, rfl⟩ := Int.eq_ofNat_of_zero_le h.1
 exact or_high64 ⟨m, by omega⟩
structure AnsIs (fn a2 : Int) (al : List Int) (code : Int) : Prop where
 cd : 0 ≤ code ∧ code ≤ 255
 none : code ≠ 0 → al = []
 len : code = 0 → fn = 1 ∨ fn = 2 ∨ fn = 3 ∨ fn = 4 ∨ fn = 23 → (al.length : Int) = a2
 bits : code = 0 → fn = 1 ∨ fn = 2 → Bits al
 wrds : code = 0 → fn = 3 ∨ fn = 4 ∨ fn = 23 → Words al
 nov : code = 0 → ¬ (fn = 1 ∨ fn = 2 ∨ fn = 3 ∨ fn = 4 ∨ fn = 23) → al = []
theorem ans_is {fn a2 : Int} {al : List Int} {code : Int} (h : ansMayB fn a2 al code = true) : AnsIs fn a2 al code := by
 unfold ansMayB at h
 split at h
 ·next c0 =>
  split at h
  ·next c =>
   simp only [Bool.and_eq_true, decide_eq_true_eq] at h
   exact ⟨by omega, fun e => absurd c0 e, fun _ _ => h.1, fun _ _ => h.2, fun _ _ => by omega, fun _ _ => by omega⟩
  split at h
  ·next c1 c =>
   simp only [Bool.and_eq_true, decide_eq_true_eq] at h
   exact ⟨by omega, fun e => absurd c0 e, fun _ _ => h.1, fun _ _ => by omega, fun _ _ => h.2, fun _ _ => by omega⟩
  ·next c1 c =>
   simp only [decide_eq_true_eq] at h
   exact ⟨by omega, fun e => absurd c0 e, fun _ _ => by omega, fun _ _ => by omega, fun _ _ => by omega, fun _ _ => List.length_eq_zero_iff.1 (by omega)⟩
 ·next c0 =>
  simp only [Bool.and_eq_true, decide_eq_true_eq] at h
  exact ⟨by omega, fun _ => List.length_eq_zero_iff.1 (by omega), fun e => absurd e c0, fun e => absurd e c0, fun e => absurd e c0, fun e => absurd e c0⟩
theorem ansbytes_no (k : Nat) (fn a1 a2 : Int) (l : List Int) (a4 a5 a6 : Int) (al : List Int) (code : Int) (hl : l.length ≤ 1000000000000) (hk : l.length + 10 ≤ k) (hl2 : al.length ≤ 1000000000000) (hk2 : al.length + 10 ≤ k)
 (h : ¬ (mayB fn a1 a2 l a4 a5 a6 = true ∧ ansMayB fn a2 al code = true)) : pdu_AnswerBytes.f k fn a1 a2 l a4 a5 a6 al code = some ([], 1) := by
 unfold pdu_AnswerBytes.f
 rw [check_f k fn a1 a2 l a4 a5 a6 hl hk, Option.bind_some]
 have hj : pdu_AnswerBytes.j0 k true fn a1 a2 l a4 a5 a6 al code = some ([], 1) := by
  obtain ⟨k, rfl⟩ : ∃ m, k = m + 1 := ⟨k - 1, by omega⟩
  rw [pdu_AnswerBytes.j0]
  rw [if_pos rfl]
 cases hm : mayB fn a1 a2 l a4 a5 a6
 ·rw [if_neg (by decide), hj]
 ·rw [if_pos (by decide), pans_f k fn a1 a2 l a4 a5 a6 al code hl2 hk2, Option.bind_some]
  cases ha : ansMayB fn a2 al code
  ·exact hj
  ·exact absurd ⟨hm, ha⟩ h
theorem ansbytes_yes (k : Nat) (fn a1 a2 : Int) (l : List Int) (a4 a5 a6 : Int) (al : List Int) (code : Int) (hk : 10000 ≤ k) (h : mayB fn a1 a2 l a4 a5 a6 = true) (h2 : ansMayB fn a2 al code = true) (hal : al.length ≤ 2500) :
 pdu_AnswerBytes.f k fn a1 a2 l a4 a5 a6 al code = some (ansB fn a1 a2 l a4 a5 a6 al code, 0) := by
 have I := may_is h
 have J := ans_is h2
 have hlen := I.len
 have hfn := I.fns
 have ha := I.addr
 have hcode := J.cd
 unfold pdu_AnswerBytes.f
 rw [check_f k fn a1 a2 l a4 a5 a6 (by omega) (by omega), Option.bind_some, h, if_pos (by decide), pans_f k fn a1 a2 l a4 a5 a6 al code (by omega) (by omega), Option.bind_some, h2]
 obtain ⟨k, rfl⟩ : ∃ m, k = m + 1 + 1 + 1 + 1 := ⟨k - 4, by omega⟩
 rw [pdu_AnswerBytes.j0]
 unfold ansB
 rw [if_neg (by decide)]
 by_cases hc : code = 0
 ·rw [if_pos hc, if_pos hc, Option.bind_some]
  have e : (if fn = 1 then pdu_AnswerBytes.j1 (k + 1 + 1 + 1) [fn % 256] fn (fn == 1) fn a1 a2 l a4 a5 a6 al code else pdu_AnswerBytes.j1 (k + 1 + 1 + 1) [fn % 256] fn (fn == 2) fn a1 a2 l a4 a5 a6 al code) = pdu_AnswerBytes.j1 (k + 1 + 1 + 1) [fn % 256] fn (decide (fn = 1 ∨ fn = 2)) fn a1 a2 l a4 a5 a6 al code := by
   by_cases c1 : fn = 1
   ·(first | rw [if_pos c1] | rw [if_neg (by omega), if_pos c1]); congr 1; rw [beq_dec, decide_eq_decide]; omega
   ·rw [if_neg c1]; congr 1; rw [beq_dec, decide_eq_decide]; omega
  rw [e]
  rw [pdu_AnswerBytes.j1]
  by_cases c12 : fn = 1 ∨ fn = 2
  ·rw [if_pos (decide_eq_true c12), if_pos c12, ppacked_f al (J.bits hc c12) (by omega) (k + 1 + 1) (by omega), Option.bind_some, pcounted_f _ _ (by simp) (by rw [packs_len]; omega), Option.bind_some]
   rfl
  rw [if_neg (by rw [decide_eq_true_eq]; exact c12), if_neg c12]
  have e : (if fn = 3 then pdu_AnswerBytes.j2 (k + 1 + 1) [fn % 256] fn (fn == 3) fn a1 a2 l a4 a5 a6 al code else if fn = 4 then pdu_AnswerBytes.j2 (k + 1 + 1) [fn % 256] fn (fn == 4) fn a1 a2 l a4 a5 a6 al code else pdu_AnswerBytes.j2 (k + 1 + 1) [fn % 256] fn (fn == 23) fn a1 a2 l a4 a5 a6 al code) = pdu_AnswerBytes.j2 (k + 1 + 1) [fn % 256] fn (decide (fn = 3 ∨ fn = 4 ∨ fn = 23)) fn a1 a2 l a4 a5 a6 al code := by
   by_cases c3 : fn = 3
   ·(first | rw [if_pos c3] | rw [if_neg (by omega), if_pos c3]); congr 1; rw [beq_dec, decide_eq_decide]; omega
   by_cases c4 : fn = 4
   ·rw [if_neg c3, if_pos c4]; congr 1; rw [beq_dec, decide_eq_decide]; omega
   rw [if_neg c3, if_neg c4]; congr 1; rw [beq_dec, decide_eq_decide]; omega
  rw [e]
  rw [pdu_AnswerBytes.j2]
  by_cases c3 : fn = 3 ∨ fn = 4 ∨ fn = 23
  ·have hla := J.len hc (by omega)
   have hcn := I.cnt (by omega)
   have hne : al ≠ [] := by intro e; rw [e] at hla; simp at hla; omega
   rw [if_pos (decide_eq_true c3), if_pos c3, lay_f [] al hne (J.wrds hc c3) (by simp) (by omega), Option.bind_some, List.nil_append, pcounted_f _ _ (by simp) (by rw [lays_len]; omega), Option.bind_some]
   rfl
  rw [if_neg (by rw [decide_eq_true_eq]; exact c3), if_neg c3]
  have e : (if fn = 15 then pdu_AnswerBytes.j3 (k + 1) [fn % 256] (fn == 15) fn a1 a2 l a4 a5 a6 else pdu_AnswerBytes.j3 (k + 1) [fn % 256] (fn == 16) fn a1 a2 l a4 a5 a6) = pdu_AnswerBytes.j3 (k + 1) [fn % 256] (decide (fn = 15 ∨ fn = 16)) fn a1 a2 l a4 a5 a6 := by
   by_cases c1 : fn = 15
   ·(first | rw [if_pos c1] | rw [if_neg (by omega), if_pos c1]); congr 1; rw [beq_dec, decide_eq_decide]; omega
   ·rw [if_neg c1]; congr 1; rw [beq_dec, decide_eq_decide]; omega
  rw [e]
  rw [pdu_AnswerBytes.j3]
  by_cases c5 : fn = 15 ∨ fn = 16
  ·have hcn := I.cntl c5
   rw [if_pos (decide_eq_true c5), if_pos c5, lay_f [fn % 256] [a1, a2] (by simp) (words2 ha (by omega)) (by simp) (by simp), Option.bind_some]
   rfl
  rw [if_neg (by rw [decide_eq_true_eq]; exact c5), if_neg c5, bytes_yes k fn a1 a2 l a4 a5 a6 (by omega) h, Option.bind_some]
 ·rw [if_neg hc, if_neg hc, fn_or (by omega), show code % 256 = code from by omega]
theorem ransbytes_yes (k : Nat) (fn a1 a2 : Int) (l : List Int) (a4 a5 a6 : Int) (al : List Int) (code : Int) (hk : 20000 ≤ k) (h : mayB fn a1 a2 l a4 a5 a6 = true) (h2 : ansMayB fn a2 al code = true) (hal : al.length ≤ 2500) :
 basculeref03_AnswerBytes.f k fn a1 a2 l a4 a5 a6 al code = some (ansB fn a1 a2 l a4 a5 a6 al code) := by
 have I := may_is h
 have J := ans_is h2
 have hlen := I.len
 have hfn := I.fns
 have ha := I.addr
 have hcode := J.cd
 obtain ⟨k, rfl⟩ : ∃ m, k = m + 1 + 1 + 1 := ⟨k - 3, by omega⟩
 unfold basculeref03_AnswerBytes.f ansB
 by_cases hc : code = 0
 ·rw [if_pos hc, if_pos hc, Option.bind_some]
  have e : (if fn = 1 then basculeref03_AnswerBytes.j0 (k + 1 + 1 + 1) [fn % 256] fn (fn == 1) fn a1 a2 l a4 a5 a6 al code else basculeref03_AnswerBytes.j0 (k + 1 + 1 + 1) [fn % 256] fn (fn == 2) fn a1 a2 l a4 a5 a6 al code) = basculeref03_AnswerBytes.j0 (k + 1 + 1 + 1) [fn % 256] fn (decide (fn = 1 ∨ fn = 2)) fn a1 a2 l a4 a5 a6 al code := by
   by_cases c1 : fn = 1
   ·(first | rw [if_pos c1] | rw [if_neg (by omega), if_pos c1]); congr 1; rw [beq_dec, decide_eq_decide]; omega
   ·rw [if_neg c1]; congr 1; rw [beq_dec, decide_eq_decide]; omega
  rw [e]
  rw [basculeref03_AnswerBytes.j0]
  by_cases c12 : fn = 1 ∨ fn = 2
  ·rw [if_pos (decide_eq_true c12), if_pos c12, refpack_f al (J.bits hc c12) (by omega) (k + 1 + 1) (by omega), Option.bind_some, rcounted_f _ (by rw [packs_len]; omega), Option.bind_some, if_pos (by simp [packs_len]; omega)]
   rfl
  rw [if_neg (by rw [decide_eq_true_eq]; exact c12), if_neg c12]
  have e : (if fn = 3 then basculeref03_AnswerBytes.j1 (k + 1 + 1) [fn % 256] fn (fn == 3) fn a1 a2 l a4 a5 a6 al code else if fn = 4 then basculeref03_AnswerBytes.j1 (k + 1 + 1) [fn % 256] fn (fn == 4) fn a1 a2 l a4 a5 a6 al code else basculeref03_AnswerBytes.j1 (k + 1 + 1) [fn % 256] fn (fn == 23) fn a1 a2 l a4 a5 a6 al code) = basculeref03_AnswerBytes.j1 (k + 1 + 1) [fn % 256] fn (decide (fn = 3 ∨ fn = 4 ∨ fn = 23)) fn a1 a2 l a4 a5 a6 al code := by
   by_cases c3 : fn = 3
   ·(first | rw [if_pos c3] | rw [if_neg (by omega), if_pos c3]); congr 1; rw [beq_dec, decide_eq_decide]; omega
   by_cases c4 : fn = 4
   ·rw [if_neg c3, if_pos c4]; congr 1; rw [beq_dec, decide_eq_decide]; omega
   rw [if_neg c3, if_neg c4]; congr 1; rw [beq_dec, decide_eq_decide]; omega
  rw [e]
  rw [basculeref03_AnswerBytes.j1]
  by_cases c3 : fn = 3 ∨ fn = 4 ∨ fn = 23
  ·rw [if_pos (decide_eq_true c3), if_pos c3, rlay_f al (J.wrds hc c3) (by omega) (k + 1) (by omega), Option.bind_some, rcounted_f _ (by rw [lays_len]; omega), Option.bind_some, if_pos (by simp [lays_len]; omega)]
   rfl
  rw [if_neg (by rw [decide_eq_true_eq]; exact c3), if_neg c3]
  have e : (if fn = 15 then basculeref03_AnswerBytes.j2 (k + 1) [fn % 256] (fn == 15) fn a1 a2 l a4 a5 a6 else basculeref03_AnswerBytes.j2 (k + 1) [fn % 256] (fn == 16) fn a1 a2 l a4 a5 a6) = basculeref03_AnswerBytes.j2 (k + 1) [fn % 256] (decide (fn = 15 ∨ fn = 16)) fn a1 a2 l a4 a5 a6 := by
   by_cases c1 : fn = 15
   ·(first | rw [if_pos c1] | rw [if_neg (by omega), if_pos c1]); congr 1; rw [beq_dec, decide_eq_decide]; omega
   ·rw [if_neg c1]; congr 1; rw [beq_dec, decide_eq_decide]; omega
  rw [e]
  rw [basculeref03_AnswerBytes.j2]
  by_cases c5 : fn = 15 ∨ fn = 16
  ·have hcn := I.cntl c5
   rw [if_pos (decide_eq_true c5), if_pos c5, rlay_f [a1, a2] (words2 ha (by omega)) (by simp) k (by simp; omega), Option.bind_some, if_pos (by simp [lays_len])]
   rfl
  rw [if_neg (by rw [decide_eq_true_eq]; exact c5), if_neg c5, rbytes_yes k fn a1 a2 l a4 a5 a6 (by omega) h, Option.bind_some]
 ·rw [if_neg hc, if_neg hc, wrap64_id _ (by omega) (by omega), show (fn + 128) % 256 = fn + 128 from by omega, show code % 256 = code from by omega]
end Go.Proofs.Ytlalpooiegganaa.Mth
end

section
namespace Go.Proofs.Ytlalpooiegganaa.MthD
open Go.RowKit Go.Proofs.YtlalpooiegganaaW.PrintWords Go.Proofs.YtlalpooiegganaaW.PrintLast Go.Proofs.YtlalpooiegganaaW.PrintMore Go.Proofs.Ytlalpooiegganaa.ExtF Go.Proofs.Ytlalpooiegganaa.PG Go.Proofs.Ytlalpooiegganaa.PG Go.Proofs.Ytlalpooiegganaa.PP Go.Proofs.Ytlalpooiegganaa.PG Go.Proofs.Ytlalpooiegganaa.ExtM Go.Proofs.Ytlalpooiegganaa.MathP Go.Proofs.Ytlalpooiegganaa.Mth
set_option linter.unusedVariables false
set_option linter.unusedSimpArgs false
def unp (b : List Int) (n : Int) : List Int := if n ≤ 8 * (b.length : Int) then unbits b n.toNat else []
theorem unp_f (b : List Int) (hb : Bytes b) (n : Int) (hn : 0 ≤ n ∧ n ≤ 65535) (hl : b.length ≤ 1000000) (k : Nat) (hk : 100000 ≤ k) : PG.wire_Unpack.f k b n = some (unp b n, if n ≤ 8 * (b.length : Int) then 0 else 7) := by
 unfold unp
 by_cases h : n ≤ 8 * (b.length : Int)
 ·rw [if_pos h, if_pos h]
  obtain ⟨m, rfl⟩ := Int.eq_ofNat_of_zero_le hn.1
  exact unpack_yes b hb m (by omega) (by omega) k (by omega)
 ·rw [if_neg h, if_neg h]
  unfold PG.wire_Unpack.f
  rw [if_neg (by omega), wrap64_id _ (by omega) (by omega), if_pos (by omega)]
theorem part_bit {l : List Int} (hb : Bits l) (i : Nat) : ∀ (n m : Nat), m < n → MathP.part l i n / 2 ^ m % 2 = rd l ((i + m : Nat) : Int)
 | 0, m, h => by omega
 | n + 1, m, h => by
  have hp := part_range hb i n
  have hx := bits_rd hb ((i + n : Nat) : Int)
  show (MathP.part l i n + 2 ^ n * rd l ((i + n : Nat) : Int)) / 2 ^ m % 2 = _
  by_cases e : m = n
  ·subst e
   have h0 : (0 : Int) < 2 ^ m := by have := hp; omega
   rw [Int.add_mul_ediv_left _ _ (by omega), Int.ediv_eq_zero_of_lt hp.1 hp.2]
   omega
  ·have ih := part_bit hb i n m (by omega)
   obtain ⟨d, rfl⟩ : ∃ d, n = m + (d + 1) := ⟨n - m - 1, by omega⟩
   have h2 : (2 : Int) ^ (m + (d + 1)) = 2 ^ m * (2 * 2 ^ d) := by rw [Int.pow_add, Int.pow_succ]; congr 1; omega
   have h0 : (2 : Int) ^ m ≠ 0 := by have := part_range hb i m; omega
   rw [h2, Int.mul_assoc, Int.add_mul_ediv_left _ _ h0, Int.mul_assoc]
   generalize 2 ^ d * rd l ((i + (m + (d + 1)) : Nat) : Int) = y
   omega
theorem packs_rd {l : List Int} (j : Nat) (h : j < (packs l).length) : rd (packs l) (j : Int) = MathP.part l (8 * j) 8 := by
 rw [rd_nat j h]
 simp [packs]
theorem unbits_packs {l : List Int} (hb : Bits l) : unbits (packs l) l.length = l := by
 apply List.ext_getElem
 ·rw [unbits_len]
 intro i h1 h2
 rw [unbits_len] at h1
 simp only [unbits, List.getElem_map, List.getElem_range]
 unfold bitOf
 rw [packs_rd (i / 8) (by rw [packs_len]; omega), part_bit hb _ 8 (i % 8) (by omega), show 8 * (i / 8) + i % 8 = i from by omega]
 exact rd_nat i h2
theorem unp_packs {l : List Int} (hb : Bits l) : unp (packs l) (l.length : Int) = l := by
 unfold unp
 rw [if_pos (by rw [packs_len]; omega), Int.toNat_natCast]
 exact unbits_packs hb
theorem req_size {fn a1 a2 : Int} {l : List Int} {a4 a5 a6 : Int} (I : MayIs fn a1 a2 l a4 a5 a6) : 5 ≤ (reqB fn a1 a2 l a4 a5 a6).length ∧ (reqB fn a1 a2 l a4 a5 a6).length ≤ 10000 := by
 have h := reqB_len I
 have hl := I.len
 rw [h]
 split <;> (try split) <;> (try split) <;> (try split) <;> omega
def candA (fn a2 : Int) (b : List Int) : List Int × Int :=
 if rd b 0 = fn + 128 then ([], rd b 1)
 else if fn = 1 ∨ fn = 2 then (unp (b.drop 2) a2, 0)
 else if fn = 3 ∨ fn = 4 ∨ fn = 23 then (wordsOf (b.drop 2), 0)
 else ([], 0)
def ansP (fn a1 a2 : Int) (l : List Int) (a4 a5 a6 : Int) (b : List Int) : Option (List Int × Int) :=
 if b.length < 2 then none else if rd b 0 = fn + 128 ∧ rd b 1 = 0 then none
 else if ansMayB fn a2 (candA fn a2 b).1 (candA fn a2 b).2 = true ∧ ansB fn a1 a2 l a4 a5 a6 (candA fn a2 b).1 (candA fn a2 b).2 = b then some (candA fn a2 b) else none
theorem ansB_bytes {fn a1 a2 : Int} {l : List Int} {a4 a5 a6 : Int} {al : List Int} {code : Int} (I : MayIs fn a1 a2 l a4 a5 a6) (J : AnsIs fn a2 al code) : Bytes (ansB fn a1 a2 l a4 a5 a6 al code) := by
 have hfn := I.fns
 have hlen := I.len
 unfold ansB
 split
 ·next c0 =>
  split
  ·next c => exact bytes_cons (by omega) (counted_bytes (packs_bytes (J.bits c0 c)))
  split
  ·next c => exact bytes_cons (by omega) (counted_bytes (lays_bytes (J.wrds c0 c)))
  split
  ·next c =>
   have := I.cntl c
   exact bytes_cons (by omega) (lays_bytes (words2 I.addr (by omega)))
  ·exact reqB_bytes I
 ·next c0 =>
  have := J.cd
  exact bytes_cons (by omega) (bytes_cons (by omega) bytes_nil)
def ansT (o : Option (List Int × Int)) : List Int × Int × Int := match o with | some x => (x.1, x.2, 0) | none => ([], 0, 4)
theorem pap_j1 (k : Nat) (hk : 30000 ≤ k) {fn a1 a2 : Int} {l : List Int} {a4 a5 a6 : Int} (h : mayB fn a1 a2 l a4 a5 a6 = true) (b : List Int) (hb : Bytes b) (al : List Int) (code : Int) (hal : al.length ≤ 2500) :
 PG.pdu_AnswerParse.j1 (k + 1) b fn a1 a2 l a4 a5 a6 al code = some (ansT (if ansMayB fn a2 al code = true ∧ ansB fn a1 a2 l a4 a5 a6 al code = b then some (al, code) else none)) := by
 have I := may_is h
 have hlen := I.len
 rw [PG.pdu_AnswerParse.j1]
 cases hm : ansMayB fn a2 al code
 ·rw [ansbytes_no k fn a1 a2 l a4 a5 a6 al code (by omega) (by omega) (by omega) (by omega) (fun x => Bool.false_ne_true (hm.symm.trans x.2)), Option.bind_some, if_neg (show ¬ ((1 : Int) = 0) by decide), if_neg (fun x => Bool.false_ne_true x.1)]
  rfl
 ·have J := ans_is hm
  rw [ansbytes_yes k fn a1 a2 l a4 a5 a6 al code (by omega) h hm hal, Option.bind_some, if_pos rfl]
  unfold PG.bytes_Equal.f
  rw [str_beq (ansB_bytes I J) hb, Option.bind_some]
  by_cases e : ansB fn a1 a2 l a4 a5 a6 al code = b
  ·rw [decide_eq_true e, if_pos rfl, if_pos ⟨rfl, e⟩]; rfl
  ·rw [decide_eq_false e, if_neg Bool.false_ne_true, if_neg (fun x => e x.2)]; rfl
theorem pap_yes (k : Nat) (hk : 200000 ≤ k) {fn a1 a2 : Int} {l : List Int} {a4 a5 a6 : Int} (h : mayB fn a1 a2 l a4 a5 a6 = true) (b : List Int) (hb : Bytes b) (hbl : b.length ≤ 4000) :
 PG.pdu_AnswerParse.f k fn a1 a2 l a4 a5 a6 b = some (ansT (ansP fn a1 a2 l a4 a5 a6 b)) := by
 have I := may_is h
 have hlen := I.len
 have hfn := I.fns
 obtain ⟨k, rfl⟩ : ∃ m, k = m + 1 + 1 := ⟨k - 2, by omega⟩
 unfold PG.pdu_AnswerParse.f ansP
 rw [check_f (k + 1 + 1) fn a1 a2 l a4 a5 a6 (by omega) (by omega), h, Option.bind_some, if_pos (show (if true = true then (0 : Int) else 1) = 0 from rfl)]
 by_cases h2 : b.length < 2
 ·rw [if_pos (by omega), if_pos h2]; rfl
 have r0 := bytes_rd hb 0
 have r1 := bytes_rd hb 1
 rw [if_neg (by omega), if_pos (by omega), if_neg h2, fn_or64 (by omega), wrap64_id (rd b 0) (by omega) (by omega), wrap64_id (rd b 1) (by omega) (by omega)]
 by_cases e0 : rd b 0 = fn + 128
 ·rw [if_pos e0, if_pos (by omega)]
  by_cases e1 : rd b 1 = 0
  ·rw [if_pos e1, if_pos ⟨e0, e1⟩, e1]; rfl
  ·rw [if_neg e1, if_neg (fun x => e1 x.2), pap_j1 (k + 1) (by omega) h b hb [] (rd b 1) (by simp)]
   unfold candA
   rw [if_pos e0]
 ·have hc0 : ∀ x, candA fn a2 b = x → x = (if fn = 1 ∨ fn = 2 then (unp (b.drop 2) a2, 0) else if fn = 3 ∨ fn = 4 ∨ fn = 23 then (wordsOf (b.drop 2), 0) else ([], 0)) := by
   intro x hx; rw [← hx]; unfold candA; rw [if_neg e0]
  have hce := hc0 _ rfl
  have hn01 : ¬ (rd b 0 = fn + 128 ∧ rd b 1 = 0) := fun x => e0 x.1
  rw [if_neg e0, if_neg hn01]
  have hd := bytes_drop hb 2
  have e : (if fn = 1 then PG.pdu_AnswerParse.j0 (k + 1 + 1) b true fn a1 a2 l a4 a5 a6 0 else PG.pdu_AnswerParse.j0 (k + 1 + 1) b (fn == 2) fn a1 a2 l a4 a5 a6 0) = PG.pdu_AnswerParse.j0 (k + 1 + 1) b (decide (fn = 1 ∨ fn = 2)) fn a1 a2 l a4 a5 a6 0 := by
   by_cases c1 : fn = 1
   ·rw [if_pos c1]; congr 1; rw [eq_comm, decide_eq_true_eq]; exact Or.inl c1
   ·rw [if_neg c1]; congr 1; rw [beq_dec, decide_eq_decide]; omega
  rw [e, PG.pdu_AnswerParse.j0]
  by_cases c12 : fn = 1 ∨ fn = 2
  ·have hcn := I.cnt (by omega)
   rw [if_pos (decide_eq_true c12), if_pos (by omega), unp_f _ hd a2 (by omega) (by rw [List.length_drop]; omega) (k + 1) (by omega), Option.bind_some, pap_j1 k (by omega) h b hb _ 0 (by unfold unp; split; rw [unbits_len]; omega; simp)]
   rw [hce, if_pos c12]
  rw [if_neg (by rw [decide_eq_true_eq]; exact c12)]
  by_cases c3 : fn = 3 ∨ fn = 4 ∨ fn = 23
  ·have hw := pwords_f _ hd (by rw [List.length_drop]; omega) (k + 1) (by rw [List.length_drop]; omega)
   have hj := pap_j1 k (by omega) h b hb (wordsOf (b.drop 2)) 0 (by rw [wordsOf_len, List.length_drop]; omega)
   rw [hce, if_neg c12, if_pos c3]
   rw [← hj]
   by_cases d3 : fn = 3
   ·rw [if_pos d3, if_pos (by omega), hw, Option.bind_some]
   by_cases d4 : fn = 4
   ·rw [if_neg d3, if_pos d4, if_pos (by omega), hw, Option.bind_some]
   rw [if_neg d3, if_neg d4, if_pos (by omega), if_pos (by omega), hw, Option.bind_some]
  ·rw [if_neg (by omega), if_neg (by omega), if_neg (by omega), pap_j1 k (by omega) h b hb [] 0 (by simp)]
   rw [hce, if_neg c12, if_neg c3]
theorem ansB_len {fn a1 a2 : Int} {l : List Int} {a4 a5 a6 : Int} {al : List Int} {code : Int} (I : MayIs fn a1 a2 l a4 a5 a6) (c0 : code = 0) : (ansB fn a1 a2 l a4 a5 a6 al code).length =
 if fn = 1 ∨ fn = 2 then 2 + (al.length + 7) / 8 else if fn = 3 ∨ fn = 4 ∨ fn = 23 then 2 + 2 * al.length else if fn = 15 ∨ fn = 16 then 5 else (reqB fn a1 a2 l a4 a5 a6).length := by
 unfold ansB
 rw [if_pos c0]
 split
 ·simp [packs_len]; omega
 split
 ·simp [lays_len]; omega
 split
 ·simp [lays_len]
 ·rfl
theorem ansB_hd {fn a1 a2 : Int} {l : List Int} {a4 a5 a6 : Int} {al : List Int} {code : Int} (I : MayIs fn a1 a2 l a4 a5 a6) (c0 : code = 0) : rd (ansB fn a1 a2 l a4 a5 a6 al code) 0 = fn := by
 have hfn := I.fns
 have e : fn % 256 = fn := by omega
 unfold ansB
 rw [if_pos c0]
 split
 ·exact e
 split
 ·exact e
 split
 ·exact e
 ·exact e
theorem ansP_ansB {fn a1 a2 : Int} {l : List Int} {a4 a5 a6 : Int} {al : List Int} {code : Int} (h : mayB fn a1 a2 l a4 a5 a6 = true) (h2 : ansMayB fn a2 al code = true) : ansP fn a1 a2 l a4 a5 a6 (ansB fn a1 a2 l a4 a5 a6 al code) = some (al, code) := by
 have I := may_is h
 have J := ans_is h2
 have hfn := I.fns
 have hcd : candA fn a2 (ansB fn a1 a2 l a4 a5 a6 al code) = (al, code) ∧ 2 ≤ (ansB fn a1 a2 l a4 a5 a6 al code).length ∧ ¬ (rd (ansB fn a1 a2 l a4 a5 a6 al code) 0 = fn + 128 ∧ rd (ansB fn a1 a2 l a4 a5 a6 al code) 1 = 0) := by
  by_cases c0 : code = 0
  ·have hh := ansB_hd (al := al) I c0
   have hlen := ansB_len (al := al) I c0
   have hrs := req_size I
   refine ⟨?_, by rw [hlen]; split <;> (try split) <;> (try split) <;> omega, fun x => by omega⟩
   unfold candA
   rw [if_neg (by omega)]
   by_cases c12 : fn = 1 ∨ fn = 2
   ·have hb := J.bits c0 c12
    have hl := J.len c0 (by omega)
    have hd : (ansB fn a1 a2 l a4 a5 a6 al code).drop 2 = packs al := by unfold ansB; rw [if_pos c0, if_pos c12]; rfl
    rw [if_pos c12, hd, ← hl, unp_packs hb, c0]
   rw [if_neg c12]
   by_cases c3 : fn = 3 ∨ fn = 4 ∨ fn = 23
   ·have hd : (ansB fn a1 a2 l a4 a5 a6 al code).drop 2 = lays al := by unfold ansB; rw [if_pos c0, if_neg c12, if_pos c3]; rfl
    rw [if_pos c3, hd, words_lays (J.wrds c0 c3), c0]
   rw [if_neg c3, J.nov c0 (by omega), c0]
  ·have e : ansB fn a1 a2 l a4 a5 a6 al code = [fn + 128, code] := by unfold ansB; rw [if_neg c0]
   rw [e]
   refine ⟨?_, by simp, fun x => c0 x.2⟩
   unfold candA
   rw [show rd [fn + 128, code] 0 = fn + 128 from rfl, if_pos rfl, J.none c0]
   rfl
 unfold ansP
 rw [if_neg (by omega), if_neg hcd.2.2, hcd.1, if_pos ⟨h2, rfl⟩]
theorem ansB_size {fn a1 a2 : Int} {l : List Int} {a4 a5 a6 : Int} {al : List Int} {code : Int} (I : MayIs fn a1 a2 l a4 a5 a6) (hal : al.length ≤ 125 ∨ (fn = 1 ∨ fn = 2) ∧ al.length ≤ 2000) : (ansB fn a1 a2 l a4 a5 a6 al code).length ≤ 4000 := by
 have hl := I.len
 have hr := reqB_len I
 have hmo := I.most
 have hon := I.one
 by_cases c0 : code = 0
 ·rw [ansB_len I c0, hr]
  split <;> (try split) <;> (try split) <;> (try split) <;> (try split) <;> (try split) <;> (try split) <;> omega
 ·unfold ansB; rw [if_neg c0]; simp
theorem ints_same (l : List Int) (hl : l.length ≤ 1000000000000) (k : Nat) (hk : l.length + 1 ≤ k) : PG.basculeref01_Ints.f k l l = some true := MathP.ints_f l hl k hk
theorem same_f (k : Nat) (fn a1 a2 : Int) (l : List Int) (a4 a5 a6 : Int) (hl : l.length ≤ 1000000000000) (hk : l.length + 1 ≤ k) : PG.basculeref03_Same.f k fn a1 a2 l a4 a5 a6 fn a1 a2 l a4 a5 a6 = some true := by
 unfold PG.basculeref03_Same.f
 simp [ints_same l hl k hk]
end Go.Proofs.Ytlalpooiegganaa.MthD
end

section
namespace Go.Proofs.Ytlalpooiegganaa.PK
open Go.RowKit Go.Proofs.YtlalpooiegganaaW.PrintWords Go.Proofs.YtlalpooiegganaaW.PrintLast Go.Proofs.YtlalpooiegganaaW.PrintMore
attribute [local go_sem] max2_int min2_int max_two min_two max_three min_three max_four min_four   
set_option linter.unusedVariables false
set_option linter.unusedSimpArgs false
open Go.Proofs.Ytlalpooiegganaa.Ext Go.Proofs.Ytlalpooiegganaa.PP Go.Proofs.Ytlalpooiegganaa.ExtF Go.Proofs.Ytlalpooiegganaa.ExtM Go.Proofs.Ytlalpooiegganaa.PG
def errW : Option Int → Value
 | none => .nilIface
 | some c => .iface 0 (.int .i64 c)
theorem errW_none : errW none = .nilIface := rfl
theorem errW_some (c : Int) : errW (some c) = .iface 0 (.int .i64 c) := rfl
theorem info3 : (Try.prog.info? 3).map (fun i => (i.zero, i.size, i.bytes)) = some (some (.int .i64 0), 1, 8) := by kernel_rfl
structure S31 where
 f0 : Int
 f1 : Int
 f2 : Int
 f3 : (List Int)
 f4 : Int
 f5 : Int
 f6 : Int
def z31 : S31 := ⟨(0 : Int), (0 : Int), (0 : Int), ([] : List Int), (0 : Int), (0 : Int), (0 : Int)⟩
def k31 : Kd S31 := Kd.iso (Kd.pair (Kd.int .i64) (Kd.pair (Kd.int .i64) (Kd.pair (Kd.int .i64) (Kd.pair (Kd.slice 3 (Kd.int .i64)) (Kd.pair (Kd.int .i64) (Kd.pair (Kd.int .i64) (Kd.int .i64))))))) (fun x : S31 => (x.f0, x.f1, x.f2, x.f3, x.f4, x.f5, x.f6))
theorem k31_open {w : World} {x : S31} {cs : List Value} (h : k31.K w x cs) : ∃ A3 c3, cs = [.int .i64 x.f0, .int .i64 x.f1, .int .i64 x.f2, .slice A3 x.f3.length c3, .int .i64 x.f4, .int .i64 x.f5, .int .i64 x.f6] ∧ x.f3.length ≤ c3 ∧ (Kd.int .i64).C w A3 x.f3.length x.f3 := by
 obtain ⟨_, _, rfl, rfl, ⟨_, _, rfl, rfl, ⟨_, _, rfl, rfl, ⟨_, _, rfl, ⟨A3, c3, rfl, l3, g3⟩, ⟨_, _, rfl, rfl, ⟨_, _, rfl, rfl, rfl⟩⟩⟩⟩⟩⟩ := h
 exact ⟨A3, c3, rfl, l3, g3⟩
theorem k31_mk (w : World) (x : S31) {A3 : Option Addr} {c3 : Nat} (l3 : x.f3.length ≤ c3) (g3 : (Kd.int .i64).C w A3 x.f3.length x.f3) : k31.K w x [.int .i64 x.f0, .int .i64 x.f1, .int .i64 x.f2, .slice A3 x.f3.length c3, .int .i64 x.f4, .int .i64 x.f5, .int .i64 x.f6] := ⟨[.int .i64 x.f0], [.int .i64 x.f1, .int .i64 x.f2, .slice A3 x.f3.length c3, .int .i64 x.f4, .int .i64 x.f5, .int .i64 x.f6], rfl, rfl, ⟨[.int .i64 x.f1], [.int .i64 x.f2, .slice A3 x.f3.length c3, .int .i64 x.f4, .int .i64 x.f5, .int .i64 x.f6], rfl, rfl, ⟨[.int .i64 x.f2], [.slice A3 x.f3.length c3, .int .i64 x.f4, .int .i64 x.f5, .int .i64 x.f6], rfl, rfl, ⟨[.slice A3 x.f3.length c3], [.int .i64 x.f4, .int .i64 x.f5, .int .i64 x.f6], rfl, ⟨A3, c3, rfl, l3, g3⟩, ⟨[.int .i64 x.f4], [.int .i64 x.f5, .int .i64 x.f6], rfl, rfl, ⟨[.int .i64 x.f5], [.int .i64 x.f6], rfl, rfl, rfl⟩⟩⟩⟩⟩⟩
def rd_T31 (xs : List S31) (i : Int) : S31 := xs.getD i.toNat z31
theorem at_T31 {w : World} {A : Option Addr} {n : Nat} {xs : List S31} (h : Kd.C k31 w A n xs) (i : Int) (h0 : 0 ≤ i) (h1 : i < n) : ∃ ad A3 c3, A = some ad ∧ w.cell? (ad.add (i.toNat * 7)) = some (.int .i64 (rd_T31 xs i).f0) ∧ w.cell? ⟨(ad.add (i.toNat * 7)).block, (ad.add (i.toNat * 7)).off + 1, none⟩ = some (.int .i64 (rd_T31 xs i).f1) ∧ w.cell? ⟨(ad.add (i.toNat * 7)).block, (ad.add (i.toNat * 7)).off + 2, none⟩ = some (.int .i64 (rd_T31 xs i).f2) ∧ w.cell? ⟨(ad.add (i.toNat * 7)).block, (ad.add (i.toNat * 7)).off + 3, none⟩ = some (.slice A3 (rd_T31 xs i).f3.length c3) ∧ w.cell? ⟨(ad.add (i.toNat * 7)).block, (ad.add (i.toNat * 7)).off + 4, none⟩ = some (.int .i64 (rd_T31 xs i).f4) ∧ w.cell? ⟨(ad.add (i.toNat * 7)).block, (ad.add (i.toNat * 7)).off + 5, none⟩ = some (.int .i64 (rd_T31 xs i).f5) ∧ w.cell? ⟨(ad.add (i.toNat * 7)).block, (ad.add (i.toNat * 7)).off + 6, none⟩ = some (.int .i64 (rd_T31 xs i).f6) ∧ (rd_T31 xs i).f3.length ≤ c3 ∧ (Kd.int .i64).C w A3 (rd_T31 xs i).f3.length (rd_T31 xs i).f3 := by
 obtain ⟨ad, c, e, _, hK, hc0⟩ := Kd.C_get h z31 i h0 h1
 have hc : ∀ j u, c[j]? = some u → w.cell? (ad.add (i.toNat * 7 + j)) = some u := hc0
 obtain ⟨A3, c3, rfl, l3, g3⟩ := k31_open hK
 exact ⟨ad, A3, c3, e, hc 0 _ rfl, by rw [← add_field _ _ 1 (by omega)]; exact hc 1 _ rfl, by rw [← add_field _ _ 2 (by omega)]; exact hc 2 _ rfl, by rw [← add_field _ _ 3 (by omega)]; exact hc 3 _ rfl, by rw [← add_field _ _ 4 (by omega)]; exact hc 4 _ rfl, by rw [← add_field _ _ 5 (by omega)]; exact hc 5 _ rfl, by rw [← add_field _ _ 6 (by omega)]; exact hc 6 _ rfl, l3, g3⟩
structure S61 where
 f0 : Int
 f1 : Int
 f2 : Int
 f3 : S31
 f4 : (List Int)
 f5 : Int
structure S39 where
 f0 : Int
 f1 : Int
 f2 : S31
structure S46 where
 f0 : (List Int)
 f1 : Int
structure S48 where
 f0 : Int
 f1 : S46
 f2 : Bool
end Go.Proofs.Ytlalpooiegganaa.PK
end

section
namespace Go.Proofs.Ytlalpooiegganaa.PK
open Go.RowKit Go.Proofs.YtlalpooiegganaaW.PrintWords Go.Proofs.YtlalpooiegganaaW.PrintLast Go.Proofs.YtlalpooiegganaaW.PrintMore
attribute [local go_sem] max2_int min2_int max_two min_two max_three min_three max_four min_four   
set_option linter.unusedVariables false
set_option linter.unusedSimpArgs false
open Go.Proofs.Ytlalpooiegganaa.Ext Go.Proofs.Ytlalpooiegganaa.PP Go.Proofs.Ytlalpooiegganaa.ExtF Go.Proofs.Ytlalpooiegganaa.ExtM Go.Proofs.Ytlalpooiegganaa.PG
def basculeref03_Bit.f (a0 : Int) : Option (Bool) := if a0 = 1 then (some true) else (if a0 = 2 then (some true) else (if a0 = 5 then (some true) else (some (a0 == 15))))
set_option maxHeartbeats 8000000 in
set_option maxRecDepth 100000 in
theorem basculeref03_Bit.calls (a0 : Int) (r : Bool) (w : World) (h : basculeref03_Bit.f a0 = some r) :
 Calls Try.prog 36 #[.int .i64 a0] w fun e w' => e = .returned (.bool r) ∧ Drawn0 w w' := by
 have H : (if a0 = 1 then (some true) else (if a0 = 2 then (some true) else (if a0 = 5 then (some true) else (some (a0 == 15))))) = some r := h
 clear h
 by_cases c2 : a0 = 1
 ·rw [if_pos c2] at H
  have c2b0 : (a0 == 1) = true := beq_iff_eq.mpr c2
  have c2b1 : (a0 != 1) = false := bne_eq_false_iff_eq.mpr c2
  clear c2
  obtain rfl := Option.some.inj H
  go_enter Try.func36, Try.ntmps36
  go_wp2
  go_ret
  exact ⟨by first | rfl | (simp; done) | (simp [*]; done), by repeat (first | exact Drawn0.refl _ | apply Drawn0.step)⟩
 ·rw [if_neg c2] at H
  have c2b0 : (a0 == 1) = false := beq_eq_false_iff_ne.mpr c2
  have c2b1 : (a0 != 1) = true := bne_iff_ne.mpr c2
  by_cases c3 : a0 = 2
  ·rw [if_pos c3] at H
   have c3b0 : (a0 == 2) = true := beq_iff_eq.mpr c3
   have c3b1 : (a0 != 2) = false := bne_eq_false_iff_eq.mpr c3
   clear c3
   obtain rfl := Option.some.inj H
   go_enter Try.func36, Try.ntmps36
   go_wp2
   go_ret
   exact ⟨by first | rfl | (simp; done) | (simp [*]; done), by repeat (first | exact Drawn0.refl _ | apply Drawn0.step)⟩
  ·rw [if_neg c3] at H
   have c3b0 : (a0 == 2) = false := beq_eq_false_iff_ne.mpr c3
   have c3b1 : (a0 != 2) = true := bne_iff_ne.mpr c3
   by_cases c4 : a0 = 5
   ·rw [if_pos c4] at H
    have c4b0 : (a0 == 5) = true := beq_iff_eq.mpr c4
    have c4b1 : (a0 != 5) = false := bne_eq_false_iff_eq.mpr c4
    clear c4
    obtain rfl := Option.some.inj H
    go_enter Try.func36, Try.ntmps36
    go_wp2
    go_ret
    exact ⟨by first | rfl | (simp; done) | (simp [*]; done), by repeat (first | exact Drawn0.refl _ | apply Drawn0.step)⟩
   ·rw [if_neg c4] at H
    have c4b0 : (a0 == 5) = false := beq_eq_false_iff_ne.mpr c4
    have c4b1 : (a0 != 5) = true := bne_iff_ne.mpr c4
    obtain rfl := Option.some.inj H
    go_enter Try.func36, Try.ntmps36
    go_wp2
    go_ret
    exact ⟨by first | rfl | (simp; done) | (simp [*]; done), by repeat (first | exact Drawn0.refl _ | apply Drawn0.step)⟩
end Go.Proofs.Ytlalpooiegganaa.PK
end

section
namespace Go.Proofs.Ytlalpooiegganaa.PK
open Go.RowKit Go.Proofs.YtlalpooiegganaaW.PrintWords Go.Proofs.YtlalpooiegganaaW.PrintLast Go.Proofs.YtlalpooiegganaaW.PrintMore
attribute [local go_sem] max2_int min2_int max_two min_two max_three min_three max_four min_four   
set_option linter.unusedVariables false
set_option linter.unusedSimpArgs false
open Go.Proofs.Ytlalpooiegganaa.Ext Go.Proofs.Ytlalpooiegganaa.PP Go.Proofs.Ytlalpooiegganaa.ExtF Go.Proofs.Ytlalpooiegganaa.ExtM Go.Proofs.Ytlalpooiegganaa.PG
mutual
def basculelaw07_answer.j0 : Nat → Int → Bool → Int → Int → Int → List Int → Int → Int → Int → Int → Option (List Int)
 | 0, _, _, _, _, _, _, _, _, _, _ => none
 | k + 1, x1, x19, x227000, x227001, x227002, x227003, x227004, x227005, x227006, x228001 => if x19 = true then (basculelaw07_answer.l0 k x1 0 x227000 x227001 x227002 x227003 x227004 x227005 x227006 ([] : List Int) x228001) else ((basculeref03_AnswerBytes.f k x227000 x227001 x227002 x227003 x227004 x227005 x227006 ([] : List Int) x228001).bind fun t241 => (some t241))
def basculelaw07_answer.l0 : Nat → Int → Int → Int → Int → Int → List Int → Int → Int → Int → List Int → Int → Option (List Int)
 | 0, _, _, _, _, _, _, _, _, _, _, _ => none
 | k + 1, x1, x6, x227000, x227001, x227002, x227003, x227004, x227005, x227006, x228000, x228001 => if x6 < x227002 then ((basculeref03_Bit.f x227000).bind fun t228 => (if t228 = true then (if x228000.length < 17592186044416 then (basculelaw07_answer.l0 k x1 (wrap64 (x6 + 1)) x227000 x227001 x227002 x227003 x227004 x227005 x227006 (x228000 ++ [Int.tmod x1 2]) x228001) else (none)) else (if x227000 ≤ 2 then (if x228000.length < 17592186044416 then (basculelaw07_answer.l0 k x1 (wrap64 (x6 + 1)) x227000 x227001 x227002 x227003 x227004 x227005 x227006 (x228000 ++ [Int.tmod x1 2]) x228001) else (none)) else (if x228000.length < 17592186044416 then (basculelaw07_answer.l0 k x1 (wrap64 (x6 + 1)) x227000 x227001 x227002 x227003 x227004 x227005 x227006 (x228000 ++ [Int.tmod x1 65536]) x228001) else (none))))) else ((basculeref03_AnswerBytes.f k x227000 x227001 x227002 x227003 x227004 x227005 x227006 x228000 x228001).bind fun t238 => (some t238))
end
def basculelaw07_answer.f (k : Nat) (a0_0 : Int) (a0_1 : Int) (a0_2 : Int) (l0_3 : List Int) (a0_4 : Int) (a0_5 : Int) (a0_6 : Int) (a1 : Int) : Option (List Int) := if a1 ≥ 0 then (if a0_0 ≤ 4 then (basculelaw07_answer.j0 k a1 true a0_0 a0_1 a0_2 l0_3 a0_4 a0_5 a0_6 0) else (basculelaw07_answer.j0 k a1 (a0_0 == 23) a0_0 a0_1 a0_2 l0_3 a0_4 a0_5 a0_6 0)) else ((basculeref03_AnswerBytes.f k a0_0 a0_1 a0_2 l0_3 a0_4 a0_5 a0_6 ([] : List Int) 2).bind fun t244 => (some t244))
theorem basculelaw07_answer.mono_l : ∀ k, (∀ y0 y1 y2 y3 y4 y5 y6 y7 y8 y9, LeO (basculelaw07_answer.j0 k y0 y1 y2 y3 y4 y5 y6 y7 y8 y9) (basculelaw07_answer.j0 (k + 1) y0 y1 y2 y3 y4 y5 y6 y7 y8 y9)) ∧ (∀ y0 y1 y2 y3 y4 y5 y6 y7 y8 y9 y10, LeO (basculelaw07_answer.l0 k y0 y1 y2 y3 y4 y5 y6 y7 y8 y9 y10) (basculelaw07_answer.l0 (k + 1) y0 y1 y2 y3 y4 y5 y6 y7 y8 y9 y10))
 | 0 => ⟨fun _ _ _ _ _ _ _ _ _ _ r h => by simp [basculelaw07_answer.j0] at h, fun _ _ _ _ _ _ _ _ _ _ _ r h => by simp [basculelaw07_answer.l0] at h⟩
 | k + 1 => by
  obtain ⟨ih0, ih1⟩ := basculelaw07_answer.mono_l k
  refine ⟨?_, ?_⟩
  ·intro y0 y1 y2 y3 y4 y5 y6 y7 y8 y9
   unfold basculelaw07_answer.j0
   repeat' first
   | (with_reducible exact ih0 _ _ _ _ _ _ _ _ _ _)
   | (with_reducible exact ih1 _ _ _ _ _ _ _ _ _ _ _)
   | (with_reducible exact basculeref03_AnswerBytes.mono _ _ _ _ _ _ _ _ _ _)
   | (with_reducible exact LeO.refl _)
   | (with_reducible exact LeO.none _)
   | (with_reducible refine LeO.ite ?_ ?_)
   | (with_reducible refine LeO.bind ?_ (fun _ => ?_))
   | exact ih0 _ _ _ _ _ _ _ _ _ _
   | exact ih1 _ _ _ _ _ _ _ _ _ _ _
   | exact basculeref03_AnswerBytes.mono _ _ _ _ _ _ _ _ _ _
   | exact LeO.none _
   | refine LeO.ite ?_ ?_
   | refine LeO.bind ?_ (fun _ => ?_)
  ·intro y0 y1 y2 y3 y4 y5 y6 y7 y8 y9 y10
   unfold basculelaw07_answer.l0
   repeat' first
   | (with_reducible exact ih0 _ _ _ _ _ _ _ _ _ _)
   | (with_reducible exact ih1 _ _ _ _ _ _ _ _ _ _ _)
   | (with_reducible exact basculeref03_AnswerBytes.mono _ _ _ _ _ _ _ _ _ _)
   | (with_reducible exact LeO.refl _)
   | (with_reducible exact LeO.none _)
   | (with_reducible refine LeO.ite ?_ ?_)
   | (with_reducible refine LeO.bind ?_ (fun _ => ?_))
   | exact ih0 _ _ _ _ _ _ _ _ _ _
   | exact ih1 _ _ _ _ _ _ _ _ _ _ _
   | exact basculeref03_AnswerBytes.mono _ _ _ _ _ _ _ _ _ _
   | exact LeO.none _
   | refine LeO.ite ?_ ?_
   | refine LeO.bind ?_ (fun _ => ?_)
theorem basculelaw07_answer.mono : ∀ a0 a1 a2 a3 a4 a5 a6 a7 k, LeO (basculelaw07_answer.f k a0 a1 a2 a3 a4 a5 a6 a7) (basculelaw07_answer.f (k + 1) a0 a1 a2 a3 a4 a5 a6 a7) := by
 intro a0 a1 a2 a3 a4 a5 a6 a7 k
 obtain ⟨ih0, ih1⟩ := basculelaw07_answer.mono_l k
 unfold basculelaw07_answer.f
 repeat' first
  | (with_reducible exact ih0 _ _ _ _ _ _ _ _ _ _)
  | (with_reducible exact ih1 _ _ _ _ _ _ _ _ _ _ _)
  | (with_reducible exact basculeref03_AnswerBytes.mono _ _ _ _ _ _ _ _ _ _)
  | (with_reducible exact LeO.refl _)
  | (with_reducible exact LeO.none _)
  | (with_reducible refine LeO.ite ?_ ?_)
  | (with_reducible refine LeO.bind ?_ (fun _ => ?_))
  | exact ih0 _ _ _ _ _ _ _ _ _ _
  | exact ih1 _ _ _ _ _ _ _ _ _ _ _
  | exact basculeref03_AnswerBytes.mono _ _ _ _ _ _ _ _ _ _
  | exact LeO.none _
  | refine LeO.ite ?_ ?_
  | refine LeO.bind ?_ (fun _ => ?_)
set_option maxHeartbeats 8000000 in
set_option maxRecDepth 100000 in
theorem basculelaw07_answer.calls (k : Nat) (a0_0 : Int) (a0_1 : Int) (a0_2 : Int) (A0_3 : Option Addr) (c0_3 : Nat) (l0_3 : List Int) (a0_4 : Int) (a0_5 : Int) (a0_6 : Int) (a1 : Int) (r : List Int) (w : World) (hr0_3 : Kd.C (Kd.int .i64) w A0_3 l0_3.length l0_3) (hc0_3 : l0_3.length ≤ c0_3) (h : basculelaw07_answer.f k a0_0 a0_1 a0_2 l0_3 a0_4 a0_5 a0_6 a1 = some r) :
 Calls Try.prog 15 #[.agg #[.int .i64 a0_0, .int .i64 a0_1, .int .i64 a0_2, .slice A0_3 l0_3.length c0_3, .int .i64 a0_4, .int .i64 a0_5, .int .i64 a0_6], .int .i64 a1] w fun e w' => ∃ v0_ : Value, e = .returned (v0_) ∧ Kd.R (Kd.int .u8) 5 w' w.heap.size (fun _ => True) v0_ r ∧ Below w.heap.size w w' := by
 have hu31 := Try.underlying31
 have hu46 := Try.underlying46
 have HR0_3 := Aside0.mk hr0_3
 have HC0_3 := Aside0.mk hc0_3
 clear hr0_3 hc0_3
 have HB := Aside0.mk (Below.refl w.heap.size w)
 have H : (if a1 ≥ 0 then (if a0_0 ≤ 4 then (basculelaw07_answer.j0 k a1 true a0_0 a0_1 a0_2 l0_3 a0_4 a0_5 a0_6 0) else (basculelaw07_answer.j0 k a1 (a0_0 == 23) a0_0 a0_1 a0_2 l0_3 a0_4 a0_5 a0_6 0)) else ((basculeref03_AnswerBytes.f k a0_0 a0_1 a0_2 l0_3 a0_4 a0_5 a0_6 ([] : List Int) 2).bind fun t244 => (some t244))) = some r := h
 clear h
 by_cases c3 : a1 ≥ 0
 ·rw [if_pos c3] at H
  have c3b0 : decide (0 ≤ a1) = true := decide_eq_true c3
  clear c3
  have HC4 := Aside0.mk H
  clear H
  go_enter Try.func15, Try.ntmps15
  go_upto_region 4 with (first | ((with_reducible refine gate_dst (N := 2) rfl ?_); refine bx_ (N := 2) (cs := #[.int .i64 a0_0, .int .i64 a0_1, .int .i64 a0_2, .slice A0_3 l0_3.length c0_3, .int .i64 a0_4, .int .i64 a0_5, .int .i64 a0_6]) (t := 31) ?_; intro gb226 hg w5 hbox hb; have n0_ := Aside0.mk (below_step (bl0_ HB) hb); have n1_ := Aside0.mk (hbox); have n2_ := Aside0.mk ((by rw [hg]; exact (below_size (bl0_ HB)) : w.heap.size ≤ gb226)); have n3_ := Aside0.mk ((by rw [hg]; exact (below_size (bl0_ HB)) : w.heap.size ≤ gb226)); clear HB; have HB := n0_; have BK226 := n1_; have GW226 := n2_; have GE226 := n3_; clear n0_ n1_ n2_ n3_; clear hb hbox hg) | ((with_reducible refine gate_dst (N := 5) rfl ?_); refine bx_ (N := 5) (cs := #[.slice none 0 0, .int .i64 0]) (t := 46) ?_; intro gb227 hg w6 hbox hb; have n0_ := Aside0.mk (blk_below (g := gb226) (bk_ BK226) hb); have n1_ := Aside0.mk (below_step (bl1_ HB GE226) hb); have n2_ := Aside0.mk (hbox); have n3_ := Aside0.mk ((by rw [hg]; exact (below_size (bl1_ HB GE226)) : w.heap.size ≤ gb227)); have n4_ := Aside0.mk ((by rw [hg]; exact (below_size (bl1_ HB GE226)) : w.heap.size ≤ gb227)); have n5_ := Aside0.mk ((by rw [hg]; exact Nat.ne_of_lt (blk_lt (g := gb226) (bk_ BK226)) : gb226 ≠ gb227)); have n6_ := Aside0.mk ((by rw [hg]; exact Nat.ne_of_gt (blk_lt (g := gb226) (bk_ BK226)) : gb227 ≠ gb226)); clear BK226; clear HB; have BK226 := n0_; have HB := n1_; have BK227 := n2_; have GW227 := n3_; have GE227 := n4_; have NB226_227 := n5_; have NB227_226 := n6_; clear n0_ n1_ n2_ n3_ n4_ n5_ n6_; clear hb hbox hg; have hnb7 := NB227_226.out; have hnc7 := NB226_227.out; refine cz2_ BK227.out ?_; intro hcz8_0 hcz8_1 hfz8_0 hfz8_1))
  (try simp only [Act.put, List.setIfInBounds_toArray, List.set_cons_zero, List.set_cons_succ])
  go_cut [19] (fun v19 wc => ∃ (kq : Nat) (x19_3 : Bool), v19 = .bool x19_3 ∧ Aside0 (basculelaw07_answer.j0 kq a1 x19_3 a0_0 a0_1 a0_2 l0_3 a0_4 a0_5 a0_6 0 = some r) ∧ Aside0 (kq ≤ k) ∧ Aside0 (wc.heap[gb226]? = some (.cells #[.int .i64 a0_0, .int .i64 a0_1, .int .i64 a0_2, (.slice A0_3 l0_3.length c0_3), .int .i64 a0_4, .int .i64 a0_5, .int .i64 a0_6] 31 (0, 0))) ∧ Aside0 (wc.heap[gb227]? = some (.cells #[(.slice none 0 0), .int .i64 0] 46 (0, 0))) ∧ Aside0 (Below w.heap.size w wc))
  case first =>
   have H := HC4.out
   clear HC4
   by_cases c9 : a0_0 ≤ 4
   ·rw [if_pos c9] at H
    have c9b0 : decide (a0_0 ≤ 4) = true := decide_eq_true c9
    clear c9
    (first | rw [c9b0] | (simp only [i64_w, i32_w]; rw [c9b0]) | skip)
    have H' := Aside0.mk H
    clear H
    have hnb10 := NB226_227.out
    have hnc10 := NB227_226.out
    refine cz7_ BK226.out ?_; intro hcz11_0 hcz11_1 hcz11_2 hcz11_3 hcz11_4 hcz11_5 hcz11_6 hfz11_0 hfz11_1 hfz11_2 hfz11_3 hfz11_4 hfz11_5 hfz11_6
    go_wp2
    go_meet
    case rel => exact ⟨_, (true), (by first | rfl | (simp; done) | (simp [*]; done)), H', ⟨by first | omega | exact Nat.le_refl _⟩, ⟨by (with_reducible repeat (first | refine blk_drewN ?_ _ | refine blk_drew ?_ | refine blk_alloc ?_ _)); refine blk_far ?_ NB226_227.out _; (with_reducible repeat (first | refine blk_drewN ?_ _ | refine blk_drew ?_ | refine blk_alloc ?_ _)); refine blk_far ?_ NB226_227.out _; (with_reducible repeat (first | refine blk_drewN ?_ _ | refine blk_drew ?_ | refine blk_alloc ?_ _)); refine blk_far ?_ NB226_227.out _; (with_reducible repeat (first | refine blk_drewN ?_ _ | refine blk_drew ?_ | refine blk_alloc ?_ _)); exact BK226.out⟩, ⟨by (with_reducible repeat (first | refine blk_drewN ?_ _ | refine blk_drew ?_ | refine blk_alloc ?_ _)); refine blk_put (cs := #[.slice none 0 0, .int .i64 2]) ?_ 1 _ rfl; (with_reducible repeat (first | refine blk_drewN ?_ _ | refine blk_drew ?_ | refine blk_alloc ?_ _)); refine blk_put (cs := #[.slice none 0 0, .int .i64 0]) ?_ 1 _ rfl; (with_reducible repeat (first | refine blk_drewN ?_ _ | refine blk_drew ?_ | refine blk_alloc ?_ _)); refine blk_put (cs := #[.slice none 0 0, .int .i64 0]) ?_ 0 _ rfl; (with_reducible repeat (first | refine blk_drewN ?_ _ | refine blk_drew ?_ | refine blk_alloc ?_ _)); exact BK227.out⟩, ⟨bl2_ HB GE226 GE227⟩⟩
   ·rw [if_neg c9] at H
    have c9b0 : decide (a0_0 ≤ 4) = false := decide_eq_false c9
    clear c9
    (first | rw [c9b0] | (simp only [i64_w, i32_w]; rw [c9b0]) | skip)
    have H' := Aside0.mk H
    clear H
    have hnb12 := NB226_227.out
    have hnc12 := NB227_226.out
    refine cz7_ BK226.out ?_; intro hcz13_0 hcz13_1 hcz13_2 hcz13_3 hcz13_4 hcz13_5 hcz13_6 hfz13_0 hfz13_1 hfz13_2 hfz13_3 hfz13_4 hfz13_5 hfz13_6
    go_wp2
    go_meet
    case rel => exact ⟨_, ((a0_0 == 23)), (by first | rfl | (simp; done) | (simp [*]; done)), H', ⟨by first | omega | exact Nat.le_refl _⟩, ⟨by (with_reducible repeat (first | refine blk_drewN ?_ _ | refine blk_drew ?_ | refine blk_alloc ?_ _)); refine blk_far ?_ NB226_227.out _; (with_reducible repeat (first | refine blk_drewN ?_ _ | refine blk_drew ?_ | refine blk_alloc ?_ _)); refine blk_far ?_ NB226_227.out _; (with_reducible repeat (first | refine blk_drewN ?_ _ | refine blk_drew ?_ | refine blk_alloc ?_ _)); refine blk_far ?_ NB226_227.out _; (with_reducible repeat (first | refine blk_drewN ?_ _ | refine blk_drew ?_ | refine blk_alloc ?_ _)); exact BK226.out⟩, ⟨by (with_reducible repeat (first | refine blk_drewN ?_ _ | refine blk_drew ?_ | refine blk_alloc ?_ _)); refine blk_put (cs := #[.slice none 0 0, .int .i64 2]) ?_ 1 _ rfl; (with_reducible repeat (first | refine blk_drewN ?_ _ | refine blk_drew ?_ | refine blk_alloc ?_ _)); refine blk_put (cs := #[.slice none 0 0, .int .i64 0]) ?_ 1 _ rfl; (with_reducible repeat (first | refine blk_drewN ?_ _ | refine blk_drew ?_ | refine blk_alloc ?_ _)); refine blk_put (cs := #[.slice none 0 0, .int .i64 0]) ?_ 0 _ rfl; (with_reducible repeat (first | refine blk_drewN ?_ _ | refine blk_drew ?_ | refine blk_alloc ?_ _)); exact BK227.out⟩, ⟨bl2_ HB GE226 GE227⟩⟩
  case rest =>
   clear HC4
   try clear c1
   try clear p2
   try clear c3
   try clear c3b0
   try clear c7
   try clear c9
   try clear c9b0
   try clear c10
   try clear c12
   try clear hcz11_0 hcz11_1 hcz11_2 hcz11_3 hcz11_4 hcz11_5 hcz11_6
   try clear hcz13_0 hcz13_1 hcz13_2 hcz13_3 hcz13_4 hcz13_5 hcz13_6
   try clear hcz8_0 hcz8_1
   try clear hfz11_0 hfz11_1 hfz11_2 hfz11_3 hfz11_4 hfz11_5 hfz11_6
   try clear hfz13_0 hfz13_1 hfz13_2 hfz13_3 hfz13_4 hfz13_5 hfz13_6
   try clear hfz8_0 hfz8_1
   obtain ⟨kq, x19_3, rfl, HA, HJ3, BK226, BK227, HB⟩ := hcut
   cases kq with
   | zero => exact absurd HA.out (by simp [basculelaw07_answer.j0])
   | succ kj3 =>
    have H := HA.out
    clear HA
    simp only [basculelaw07_answer.j0] at H
    by_cases c14 : x19_3 = true
    ·subst c14
     have H1 : (basculelaw07_answer.l0 kj3 a1 0 a0_0 a0_1 a0_2 l0_3 a0_4 a0_5 a0_6 ([] : List Int) 0) = some r := by rw [if_pos rfl] at H; exact H
     clear H
     have H := H1
     clear H1
     have H' := Aside0.mk H
     clear H
     go_wp2
     go_loopg [6] kj3 (fun kq v6 w' => ∃ (x6_2 : Int) (x228000_2 : List Int) (u228000 : Value), v6 = .int .i64 x6_2 ∧ Aside0 (basculelaw07_answer.l0 kq a1 x6_2 a0_0 a0_1 a0_2 l0_3 a0_4 a0_5 a0_6 x228000_2 0 = some r) ∧ Aside0 (kq ≤ kj3) ∧ Aside0 (Kd.R (Kd.int .i64) 3 w' w.heap.size (fun _ => True) u228000 x228000_2) ∧ Aside0 (w'.heap[gb226]? = some (.cells #[.int .i64 a0_0, .int .i64 a0_1, .int .i64 a0_2, (.slice A0_3 l0_3.length c0_3), .int .i64 a0_4, .int .i64 a0_5, .int .i64 a0_6] 31 (0, 0))) ∧ Aside0 (w'.heap[gb227]? = some (.cells #[u228000, .int .i64 0] 46 (0, 0))) ∧ Aside0 (Below w.heap.size w w'))
     case atStart => exact ⟨(0), (([] : List Int)), (.slice none 0 0), (by first | rfl | (simp; done) | (simp [*]; done)), H', ⟨Nat.le_refl _⟩, ⟨by first | exact Kd.R_nil _ _ _ _ _ | exact Kd.N_nil _ _ _ _ _ | exact Kd.V_nil _ _ _ _ _ | exact Kd.Q_nil _ _ _ _ _ | exact Kd.S_nil _ _ _ _ _⟩, ⟨bk_ BK226⟩, ⟨bk_ BK227⟩, ⟨bl2_ HB GE226 GE227⟩⟩
     case round =>
      clear H'
      try clear c1
      try clear p2
      try clear c3
      try clear c3b0
      try clear c7
      try clear c9
      try clear c9b0
      try clear c10
      try clear c12
      try clear c14
      try clear hcz11_0 hcz11_1 hcz11_2 hcz11_3 hcz11_4 hcz11_5 hcz11_6
      try clear hcz13_0 hcz13_1 hcz13_2 hcz13_3 hcz13_4 hcz13_5 hcz13_6
      try clear hcz8_0 hcz8_1
      try clear hfz11_0 hfz11_1 hfz11_2 hfz11_3 hfz11_4 hfz11_5 hfz11_6
      try clear hfz13_0 hfz13_1 hfz13_2 hfz13_3 hfz13_4 hfz13_5 hfz13_6
      try clear hfz8_0 hfz8_1
      try clear p2
      obtain ⟨x6_2, x228000_2, u228000, rfl, HA, HK2, HO_228000, BK226, BK227, HB⟩ := hrel
      cases gk with
      | zero => exact absurd HA.out (by simp [basculelaw07_answer.l0])
      | succ k2 =>
       have H := HA.out
       clear HA
       simp only [basculelaw07_answer.l0] at H
       by_cases c15 : x6_2 < a0_2
       ·rw [if_pos c15] at H
        have c15b0 : decide (x6_2 < a0_2) = true := decide_eq_true c15
        clear c15
        replace H := Option.bind_eq_some_iff.mp H
        obtain ⟨t228, A160, H⟩ := H
        replace H : (if t228 = true then (if x228000_2.length < 17592186044416 then (basculelaw07_answer.l0 k2 a1 (wrap64 (x6_2 + 1)) a0_0 a0_1 a0_2 l0_3 a0_4 a0_5 a0_6 (x228000_2 ++ [Int.tmod a1 2]) 0) else (none)) else (if a0_0 ≤ 2 then (if x228000_2.length < 17592186044416 then (basculelaw07_answer.l0 k2 a1 (wrap64 (x6_2 + 1)) a0_0 a0_1 a0_2 l0_3 a0_4 a0_5 a0_6 (x228000_2 ++ [Int.tmod a1 2]) 0) else (none)) else (if x228000_2.length < 17592186044416 then (basculelaw07_answer.l0 k2 a1 (wrap64 (x6_2 + 1)) a0_0 a0_1 a0_2 l0_3 a0_4 a0_5 a0_6 (x228000_2 ++ [Int.tmod a1 65536]) 0) else (none)))) = some r := H
        have A16 := Aside0.mk A160
        clear A160
        by_cases c17 : t228 = true
        ·subst c17
         have H1 : (if x228000_2.length < 17592186044416 then (basculelaw07_answer.l0 k2 a1 (wrap64 (x6_2 + 1)) a0_0 a0_1 a0_2 l0_3 a0_4 a0_5 a0_6 (x228000_2 ++ [Int.tmod a1 2]) 0) else (none)) = some r := by rw [if_pos rfl] at H; exact H
         clear H
         have H := H1
         clear H1
         by_cases c18 : x228000_2.length < 17592186044416
         ·rw [if_pos c18] at H
          have LMc18 := Aside0.mk c18
          clear c18
          obtain ⟨y229, hy229⟩ : ∃ y_ : List Int, y_ = (x228000_2 ++ [Int.tmod a1 2]) := ⟨_, rfl⟩
          replace H : (basculelaw07_answer.l0 k2 a1 (wrap64 (x6_2 + 1)) a0_0 a0_1 a0_2 l0_3 a0_4 a0_5 a0_6 y229 0) = some r := by first | (rw [hy229]; with_reducible exact H) | (have H2_ := (Option.bind_some _ _).symm.trans H; rw [hy229]; with_reducible exact H2_) | (have H2_ := (Option.bind_some _ _).symm.trans H; with_reducible exact H2_) | with_reducible exact H | (rw [hy229]; exact H) | exact H
          have Ny229 := Aside0.mk hy229
          clear hy229
          have H' := Aside0.mk H
          clear H
          have hnb19 := NB226_227.out
          have hnc19 := NB227_226.out
          refine cz7_ BK226.out ?_; intro hcz20_0 hcz20_1 hcz20_2 hcz20_3 hcz20_4 hcz20_5 hcz20_6 hfz20_0 hfz20_1 hfz20_2 hfz20_3 hfz20_4 hfz20_5 hfz20_6
          go_wp2_with (first | ((with_reducible refine gate_callee (f := 36) rfl ?_); refine goesL_ (some 30) rfl rfl Try.func36 (by kernel_rfl) rfl #[.int .i64 a0_0] rfl ar_ ?_; (with_reducible refine (basculeref03_Bit.calls a0_0 true _ A16.out).mono ?_); rintro e w' ⟨rfl, ⟨nd, rfl⟩⟩; refine ⟨_, rfl, ?_⟩; (try (rw [drewN_self wr]; generalize hq_ : World.drewN wr _ = wr; have n0_ : Aside0 (Kd.R (Kd.int .i64) 3 wr w.heap.size (fun _ => True) u228000 x228000_2) := ⟨by rw [← hq_]; exact (kr_ HO_228000)⟩; have n1_ : Aside0 (wr.heap[gb226]? = some (.cells #[.int .i64 a0_0, .int .i64 a0_1, .int .i64 a0_2, .slice A0_3 l0_3.length c0_3, .int .i64 a0_4, .int .i64 a0_5, .int .i64 a0_6] 31 (0, 0))) := ⟨by rw [← hq_]; exact (bk_ BK226)⟩; have n2_ : Aside0 (wr.heap[gb227]? = some (.cells #[u228000, .int .i64 0] 46 (0, 0))) := ⟨by rw [← hq_]; exact (bk_ BK227)⟩; have n3_ : Aside0 (Below w.heap.size w wr) := ⟨by rw [← hq_]; exact (bl2_ HB GE226 GE227)⟩; clear HO_228000 BK226 BK227 HB hq_; have HO_228000 := n0_; have BK226 := n1_; have BK227 := n2_; have HB := n3_; clear n0_ n1_ n2_ n3_)); refine cz2_ BK227.out ?_; intro hcz21_0 hcz21_1 hfz21_0 hfz21_1; have hcy_0 : wr.cell? ⟨gb226, 0, none⟩ = some (.int .i64 a0_0) := (blk_cell BK226.out 0).trans rfl; have hfy_0 := blk_frozen BK226.out 0) | ((with_reducible refine gate_builtin (b := .append) (xs := #[.tmp 39, .tmp 41]) rfl ?_); at_builtin; refine Kd.R_append (Kd.int .i64) (w0 := w) w.heap.size rfl (.tmp 39) (.tmp 41) 29 3 (.int .i64 0) 8 rfl Try.underlying29 info3 rfl (by decide) (by omega) u228000 x228000_2 (Int.tmod a1 2) [.int .i64 (Int.tmod a1 2)] (fun _ => True) (fun _ => False) rfl rfl ?aP (fun _ hk => hk.elim) ?aF ?aO ?aB ?aS ?aL ?_; (case aP => exact rfl); (case aB => exact (bl2_ HB GE226 GE227)); (case aF => exact (fun _ _ => trivial)); (case aO => exact (kr_ HO_228000)); (case aS => exact (below_size (bl2_ HB GE226 GE227))); (case aL => have := LMc18.out; omega); intro v230 w22 ho hb hg hat; rw [← Ny229.out] at ho; have n0_ := Aside0.mk (blk_grown (g := gb226) (bk_ BK226) hg (Kd.R_ne HO_228000.out BK226.out (by decide))); have n1_ := Aside0.mk (blk_grown (g := gb227) (bk_ BK227) hg (Kd.R_ne HO_228000.out BK227.out (by decide))); have n2_ := Aside0.mk (hb); have n3_ := Aside0.mk (ho); clear BK226; clear BK227; clear HB; clear HO_228000; have BK226 := n0_; have BK227 := n1_; have HB := n2_; have HO231 := n3_; clear n0_ n1_ n2_ n3_; clear ho hb hg hat; obtain ⟨Ao23, co23, eo23⟩ := Kd.R_slice HO231.out; subst eo23; refine cz2_ BK227.out ?_; intro hcz24_0 hcz24_1 hfz24_0 hfz24_1))
          go_roundg k2
          case measure => have := HJ3.out; have := HK2.out; omega
          case rel => exact ⟨(wrap64 (x6_2 + 1)), (y229), (.slice Ao23 y229.length co23), (by first | rfl | (simp; done) | (simp [*]; done)), H', ⟨by have := HJ3.out; have := HK2.out; omega⟩, ⟨by (with_reducible repeat (first | apply Kd.R_alloc | apply Kd.R_drewN | apply Kd.R_drew)); exact Kd.R_mono (Kd.R_far (p := ⟨gb227, 0, none⟩) (Kd.R_types HO231.out BK227.out (by decide)) (fun _ hk => hk.2) (.slice Ao23 y229.length co23)) (fun _ hk => trivial)⟩, ⟨by (with_reducible repeat (first | refine blk_drewN ?_ _ | refine blk_drew ?_ | refine blk_alloc ?_ _)); refine blk_far ?_ NB226_227.out _; (with_reducible repeat (first | refine blk_drewN ?_ _ | refine blk_drew ?_ | refine blk_alloc ?_ _)); exact BK226.out⟩, ⟨by (with_reducible repeat (first | refine blk_drewN ?_ _ | refine blk_drew ?_ | refine blk_alloc ?_ _)); refine blk_put (cs := #[u228000, .int .i64 0]) ?_ 0 _ rfl; (with_reducible repeat (first | refine blk_drewN ?_ _ | refine blk_drew ?_ | refine blk_alloc ?_ _)); exact BK227.out⟩, ⟨bl2_ HB GE226 GE227⟩⟩
         ·rw [if_neg c18] at H
          exact absurd H (by simp)
        ·replace c17 := Bool.eq_false_iff.mpr c17
         subst c17
         have H1 : (if a0_0 ≤ 2 then (if x228000_2.length < 17592186044416 then (basculelaw07_answer.l0 k2 a1 (wrap64 (x6_2 + 1)) a0_0 a0_1 a0_2 l0_3 a0_4 a0_5 a0_6 (x228000_2 ++ [Int.tmod a1 2]) 0) else (none)) else (if x228000_2.length < 17592186044416 then (basculelaw07_answer.l0 k2 a1 (wrap64 (x6_2 + 1)) a0_0 a0_1 a0_2 l0_3 a0_4 a0_5 a0_6 (x228000_2 ++ [Int.tmod a1 65536]) 0) else (none))) = some r := by rw [if_neg (show ¬ (false = true) by decide)] at H; exact H
         clear H
         have H := H1
         clear H1
         by_cases c25 : a0_0 ≤ 2
         ·rw [if_pos c25] at H
          have c25b0 : decide (a0_0 ≤ 2) = true := decide_eq_true c25
          clear c25
          by_cases c26 : x228000_2.length < 17592186044416
          ·rw [if_pos c26] at H
           have LMc26 := Aside0.mk c26
           clear c26
           obtain ⟨y232, hy232⟩ : ∃ y_ : List Int, y_ = (x228000_2 ++ [Int.tmod a1 2]) := ⟨_, rfl⟩
           replace H : (basculelaw07_answer.l0 k2 a1 (wrap64 (x6_2 + 1)) a0_0 a0_1 a0_2 l0_3 a0_4 a0_5 a0_6 y232 0) = some r := by first | (rw [hy232]; with_reducible exact H) | (have H2_ := (Option.bind_some _ _).symm.trans H; rw [hy232]; with_reducible exact H2_) | (have H2_ := (Option.bind_some _ _).symm.trans H; with_reducible exact H2_) | with_reducible exact H | (rw [hy232]; exact H) | exact H
           have Ny232 := Aside0.mk hy232
           clear hy232
           have H' := Aside0.mk H
           clear H
           have hnb27 := NB226_227.out
           have hnc27 := NB227_226.out
           refine cz7_ BK226.out ?_; intro hcz28_0 hcz28_1 hcz28_2 hcz28_3 hcz28_4 hcz28_5 hcz28_6 hfz28_0 hfz28_1 hfz28_2 hfz28_3 hfz28_4 hfz28_5 hfz28_6
           go_wp2_with (first | ((with_reducible refine gate_callee (f := 36) rfl ?_); refine goesL_ (some 30) rfl rfl Try.func36 (by kernel_rfl) rfl #[.int .i64 a0_0] rfl ar_ ?_; (with_reducible refine (basculeref03_Bit.calls a0_0 false _ A16.out).mono ?_); rintro e w' ⟨rfl, ⟨nd, rfl⟩⟩; refine ⟨_, rfl, ?_⟩; (try (rw [drewN_self wr]; generalize hq_ : World.drewN wr _ = wr; have n0_ : Aside0 (Kd.R (Kd.int .i64) 3 wr w.heap.size (fun _ => True) u228000 x228000_2) := ⟨by rw [← hq_]; exact (kr_ HO_228000)⟩; have n1_ : Aside0 (wr.heap[gb226]? = some (.cells #[.int .i64 a0_0, .int .i64 a0_1, .int .i64 a0_2, .slice A0_3 l0_3.length c0_3, .int .i64 a0_4, .int .i64 a0_5, .int .i64 a0_6] 31 (0, 0))) := ⟨by rw [← hq_]; exact (bk_ BK226)⟩; have n2_ : Aside0 (wr.heap[gb227]? = some (.cells #[u228000, .int .i64 0] 46 (0, 0))) := ⟨by rw [← hq_]; exact (bk_ BK227)⟩; have n3_ : Aside0 (Below w.heap.size w wr) := ⟨by rw [← hq_]; exact (bl2_ HB GE226 GE227)⟩; clear HO_228000 BK226 BK227 HB hq_; have HO_228000 := n0_; have BK226 := n1_; have BK227 := n2_; have HB := n3_; clear n0_ n1_ n2_ n3_)); refine cz2_ BK227.out ?_; intro hcz29_0 hcz29_1 hfz29_0 hfz29_1; have hcy_0 : wr.cell? ⟨gb226, 0, none⟩ = some (.int .i64 a0_0) := (blk_cell BK226.out 0).trans rfl; have hfy_0 := blk_frozen BK226.out 0) | ((with_reducible refine gate_builtin (b := .append) (xs := #[.tmp 39, .tmp 41]) rfl ?_); at_builtin; refine Kd.R_append (Kd.int .i64) (w0 := w) w.heap.size rfl (.tmp 39) (.tmp 41) 29 3 (.int .i64 0) 8 rfl Try.underlying29 info3 rfl (by decide) (by omega) u228000 x228000_2 (Int.tmod a1 2) [.int .i64 (Int.tmod a1 2)] (fun _ => True) (fun _ => False) rfl rfl ?aP (fun _ hk => hk.elim) ?aF ?aO ?aB ?aS ?aL ?_; (case aP => exact rfl); (case aB => exact (bl2_ HB GE226 GE227)); (case aF => exact (fun _ _ => trivial)); (case aO => exact (kr_ HO_228000)); (case aS => exact (below_size (bl2_ HB GE226 GE227))); (case aL => have := LMc26.out; omega); intro v233 w30 ho hb hg hat; rw [← Ny232.out] at ho; have n0_ := Aside0.mk (blk_grown (g := gb226) (bk_ BK226) hg (Kd.R_ne HO_228000.out BK226.out (by decide))); have n1_ := Aside0.mk (blk_grown (g := gb227) (bk_ BK227) hg (Kd.R_ne HO_228000.out BK227.out (by decide))); have n2_ := Aside0.mk (hb); have n3_ := Aside0.mk (ho); clear BK226; clear BK227; clear HB; clear HO_228000; have BK226 := n0_; have BK227 := n1_; have HB := n2_; have HO234 := n3_; clear n0_ n1_ n2_ n3_; clear ho hb hg hat; obtain ⟨Ao31, co31, eo31⟩ := Kd.R_slice HO234.out; subst eo31; refine cz2_ BK227.out ?_; intro hcz32_0 hcz32_1 hfz32_0 hfz32_1))
           go_roundg k2
           case measure => have := HJ3.out; have := HK2.out; omega
           case rel => exact ⟨(wrap64 (x6_2 + 1)), (y232), (.slice Ao31 y232.length co31), (by first | rfl | (simp; done) | (simp [*]; done)), H', ⟨by have := HJ3.out; have := HK2.out; omega⟩, ⟨by (with_reducible repeat (first | apply Kd.R_alloc | apply Kd.R_drewN | apply Kd.R_drew)); exact Kd.R_mono (Kd.R_far (p := ⟨gb227, 0, none⟩) (Kd.R_types HO234.out BK227.out (by decide)) (fun _ hk => hk.2) (.slice Ao31 y232.length co31)) (fun _ hk => trivial)⟩, ⟨by (with_reducible repeat (first | refine blk_drewN ?_ _ | refine blk_drew ?_ | refine blk_alloc ?_ _)); refine blk_far ?_ NB226_227.out _; (with_reducible repeat (first | refine blk_drewN ?_ _ | refine blk_drew ?_ | refine blk_alloc ?_ _)); exact BK226.out⟩, ⟨by (with_reducible repeat (first | refine blk_drewN ?_ _ | refine blk_drew ?_ | refine blk_alloc ?_ _)); refine blk_put (cs := #[u228000, .int .i64 0]) ?_ 0 _ rfl; (with_reducible repeat (first | refine blk_drewN ?_ _ | refine blk_drew ?_ | refine blk_alloc ?_ _)); exact BK227.out⟩, ⟨bl2_ HB GE226 GE227⟩⟩
          ·rw [if_neg c26] at H
           exact absurd H (by simp)
         ·rw [if_neg c25] at H
          have c25b0 : decide (a0_0 ≤ 2) = false := decide_eq_false c25
          clear c25
          by_cases c33 : x228000_2.length < 17592186044416
          ·rw [if_pos c33] at H
           have LMc33 := Aside0.mk c33
           clear c33
           obtain ⟨y235, hy235⟩ : ∃ y_ : List Int, y_ = (x228000_2 ++ [Int.tmod a1 65536]) := ⟨_, rfl⟩
           replace H : (basculelaw07_answer.l0 k2 a1 (wrap64 (x6_2 + 1)) a0_0 a0_1 a0_2 l0_3 a0_4 a0_5 a0_6 y235 0) = some r := by first | (rw [hy235]; with_reducible exact H) | (have H2_ := (Option.bind_some _ _).symm.trans H; rw [hy235]; with_reducible exact H2_) | (have H2_ := (Option.bind_some _ _).symm.trans H; with_reducible exact H2_) | with_reducible exact H | (rw [hy235]; exact H) | exact H
           have Ny235 := Aside0.mk hy235
           clear hy235
           have H' := Aside0.mk H
           clear H
           have hnb34 := NB226_227.out
           have hnc34 := NB227_226.out
           refine cz7_ BK226.out ?_; intro hcz35_0 hcz35_1 hcz35_2 hcz35_3 hcz35_4 hcz35_5 hcz35_6 hfz35_0 hfz35_1 hfz35_2 hfz35_3 hfz35_4 hfz35_5 hfz35_6
           go_wp2_with (first | ((with_reducible refine gate_callee (f := 36) rfl ?_); refine goesL_ (some 30) rfl rfl Try.func36 (by kernel_rfl) rfl #[.int .i64 a0_0] rfl ar_ ?_; (with_reducible refine (basculeref03_Bit.calls a0_0 false _ A16.out).mono ?_); rintro e w' ⟨rfl, ⟨nd, rfl⟩⟩; refine ⟨_, rfl, ?_⟩; (try (rw [drewN_self wr]; generalize hq_ : World.drewN wr _ = wr; have n0_ : Aside0 (Kd.R (Kd.int .i64) 3 wr w.heap.size (fun _ => True) u228000 x228000_2) := ⟨by rw [← hq_]; exact (kr_ HO_228000)⟩; have n1_ : Aside0 (wr.heap[gb226]? = some (.cells #[.int .i64 a0_0, .int .i64 a0_1, .int .i64 a0_2, .slice A0_3 l0_3.length c0_3, .int .i64 a0_4, .int .i64 a0_5, .int .i64 a0_6] 31 (0, 0))) := ⟨by rw [← hq_]; exact (bk_ BK226)⟩; have n2_ : Aside0 (wr.heap[gb227]? = some (.cells #[u228000, .int .i64 0] 46 (0, 0))) := ⟨by rw [← hq_]; exact (bk_ BK227)⟩; have n3_ : Aside0 (Below w.heap.size w wr) := ⟨by rw [← hq_]; exact (bl2_ HB GE226 GE227)⟩; clear HO_228000 BK226 BK227 HB hq_; have HO_228000 := n0_; have BK226 := n1_; have BK227 := n2_; have HB := n3_; clear n0_ n1_ n2_ n3_)); refine cz2_ BK227.out ?_; intro hcz36_0 hcz36_1 hfz36_0 hfz36_1; have hcy_0 : wr.cell? ⟨gb226, 0, none⟩ = some (.int .i64 a0_0) := (blk_cell BK226.out 0).trans rfl; have hfy_0 := blk_frozen BK226.out 0) | ((with_reducible refine gate_builtin (b := .append) (xs := #[.tmp 39, .tmp 41]) rfl ?_); at_builtin; refine Kd.R_append (Kd.int .i64) (w0 := w) w.heap.size rfl (.tmp 39) (.tmp 41) 29 3 (.int .i64 0) 8 rfl Try.underlying29 info3 rfl (by decide) (by omega) u228000 x228000_2 (Int.tmod a1 65536) [.int .i64 (Int.tmod a1 65536)] (fun _ => True) (fun _ => False) rfl rfl ?aP (fun _ hk => hk.elim) ?aF ?aO ?aB ?aS ?aL ?_; (case aP => exact rfl); (case aB => exact (bl2_ HB GE226 GE227)); (case aF => exact (fun _ _ => trivial)); (case aO => exact (kr_ HO_228000)); (case aS => exact (below_size (bl2_ HB GE226 GE227))); (case aL => have := LMc33.out; omega); intro v236 w37 ho hb hg hat; rw [← Ny235.out] at ho; have n0_ := Aside0.mk (blk_grown (g := gb226) (bk_ BK226) hg (Kd.R_ne HO_228000.out BK226.out (by decide))); have n1_ := Aside0.mk (blk_grown (g := gb227) (bk_ BK227) hg (Kd.R_ne HO_228000.out BK227.out (by decide))); have n2_ := Aside0.mk (hb); have n3_ := Aside0.mk (ho); clear BK226; clear BK227; clear HB; clear HO_228000; have BK226 := n0_; have BK227 := n1_; have HB := n2_; have HO237 := n3_; clear n0_ n1_ n2_ n3_; clear ho hb hg hat; obtain ⟨Ao38, co38, eo38⟩ := Kd.R_slice HO237.out; subst eo38; refine cz2_ BK227.out ?_; intro hcz39_0 hcz39_1 hfz39_0 hfz39_1))
           go_roundg k2
           case measure => have := HJ3.out; have := HK2.out; omega
           case rel => exact ⟨(wrap64 (x6_2 + 1)), (y235), (.slice Ao38 y235.length co38), (by first | rfl | (simp; done) | (simp [*]; done)), H', ⟨by have := HJ3.out; have := HK2.out; omega⟩, ⟨by (with_reducible repeat (first | apply Kd.R_alloc | apply Kd.R_drewN | apply Kd.R_drew)); exact Kd.R_mono (Kd.R_far (p := ⟨gb227, 0, none⟩) (Kd.R_types HO237.out BK227.out (by decide)) (fun _ hk => hk.2) (.slice Ao38 y235.length co38)) (fun _ hk => trivial)⟩, ⟨by (with_reducible repeat (first | refine blk_drewN ?_ _ | refine blk_drew ?_ | refine blk_alloc ?_ _)); refine blk_far ?_ NB226_227.out _; (with_reducible repeat (first | refine blk_drewN ?_ _ | refine blk_drew ?_ | refine blk_alloc ?_ _)); exact BK226.out⟩, ⟨by (with_reducible repeat (first | refine blk_drewN ?_ _ | refine blk_drew ?_ | refine blk_alloc ?_ _)); refine blk_put (cs := #[u228000, .int .i64 0]) ?_ 0 _ rfl; (with_reducible repeat (first | refine blk_drewN ?_ _ | refine blk_drew ?_ | refine blk_alloc ?_ _)); exact BK227.out⟩, ⟨bl2_ HB GE226 GE227⟩⟩
          ·rw [if_neg c33] at H
           exact absurd H (by simp)
       ·rw [if_neg c15] at H
        have c15b0 : decide (x6_2 < a0_2) = false := decide_eq_false c15
        clear c15
        replace H := Option.bind_eq_some_iff.mp H
        obtain ⟨t238, A400, H⟩ := H
        replace H : (some t238) = some r := H
        have A40 := Aside0.mk A400
        clear A400
        obtain rfl := Option.some.inj H
        have hnb41 := NB226_227.out
        have hnc41 := NB227_226.out
        refine cz7_ BK226.out ?_; intro hcz42_0 hcz42_1 hcz42_2 hcz42_3 hcz42_4 hcz42_5 hcz42_6 hfz42_0 hfz42_1 hfz42_2 hfz42_3 hfz42_4 hfz42_5 hfz42_6
        refine cz2_ BK227.out ?_; intro hcz43_0 hcz43_1 hfz43_0 hfz43_1
        obtain ⟨Ao44, co44, eo44⟩ := Kd.R_slice HO_228000.out
        subst eo44
        go_wp2_with (first | ((with_reducible refine gate_callee (f := 37) rfl ?_); refine goesL_ (some 46) rfl rfl Try.func37 (by kernel_rfl) rfl #[.agg #[.int .i64 a0_0, .int .i64 a0_1, .int .i64 a0_2, .slice A0_3 l0_3.length c0_3, .int .i64 a0_4, .int .i64 a0_5, .int .i64 a0_6], .agg #[.slice Ao44 x228000_2.length co44, .int .i64 0]] rfl ar_ ?_; (with_reducible refine (basculeref03_AnswerBytes.calls k2 a0_0 a0_1 a0_2 _ _ l0_3 a0_4 a0_5 a0_6 _ _ x228000_2 0 t238 _ ?side1 ?side2 ?side3 ?side4 A40.out).mono ?_); (case side1 => exact sc_ (Kd.C_below HR0_3.out HB.out)); (case side2 => exact HC0_3.out); (case side3 => exact sc_ (Kd.R_reads' HO_228000.out).2.2); (case side4 => exact (Kd.R_reads' HO_228000.out).2.1); rintro e w45 ⟨v239, rfl, ho0, hb⟩; refine ⟨_, rfl, ?_⟩; have n0_ := Aside0.mk (Kd.R_below (kr_ HO_228000) hb); have n1_ := Aside0.mk (Kd.R_lower ho0 (below_size (bl2_ HB GE226 GE227))); have n2_ := Aside0.mk (blk_below (g := gb226) (bk_ BK226) hb); have n3_ := Aside0.mk (blk_below (g := gb227) (bk_ BK227) hb); have n4_ := Aside0.mk (below_step (bl2_ HB GE226 GE227) hb); clear HO_228000; clear BK226; clear BK227; clear HB; have HO_228000 := n0_; have HO240 := n1_; have BK226 := n2_; have BK227 := n3_; have HB := n4_; clear n0_ n1_ n2_ n3_ n4_; (try clear hb); (try clear hb2); (try clear hk); (try clear hi); (try clear ho0)))
        go_ret
        exact ⟨_, er_, kr_ HO240, bl2_ HB GE226 GE227⟩
    ·replace c14 := Bool.eq_false_iff.mpr c14
     subst c14
     have H1 : ((basculeref03_AnswerBytes.f kj3 a0_0 a0_1 a0_2 l0_3 a0_4 a0_5 a0_6 ([] : List Int) 0).bind fun t241 => (some t241)) = some r := by rw [if_neg (show ¬ (false = true) by decide)] at H; exact H
     clear H
     have H := H1
     clear H1
     replace H := Option.bind_eq_some_iff.mp H
     obtain ⟨t241, A460, H⟩ := H
     replace H : (some t241) = some r := H
     have A46 := Aside0.mk A460
     clear A460
     obtain rfl := Option.some.inj H
     have hnb47 := NB226_227.out
     have hnc47 := NB227_226.out
     refine cz7_ BK226.out ?_; intro hcz48_0 hcz48_1 hcz48_2 hcz48_3 hcz48_4 hcz48_5 hcz48_6 hfz48_0 hfz48_1 hfz48_2 hfz48_3 hfz48_4 hfz48_5 hfz48_6
     refine cz2_ BK227.out ?_; intro hcz49_0 hcz49_1 hfz49_0 hfz49_1
     go_wp2_with (first | ((with_reducible refine gate_callee (f := 37) rfl ?_); refine goesL_ (some 46) rfl rfl Try.func37 (by kernel_rfl) rfl #[.agg #[.int .i64 a0_0, .int .i64 a0_1, .int .i64 a0_2, .slice A0_3 l0_3.length c0_3, .int .i64 a0_4, .int .i64 a0_5, .int .i64 a0_6], .agg #[.slice none 0 0, .int .i64 0]] rfl ar_ ?_; (refine (basculeref03_AnswerBytes.calls kj3 a0_0 a0_1 a0_2 _ _ l0_3 a0_4 a0_5 a0_6 _ _ ([] : List Int) 0 t241 _ ?side1 ?side2 ?side3 ?side4 A46.out).mono ?_); (case side1 => exact sc_ (Kd.C_below HR0_3.out HB.out)); (case side2 => exact HC0_3.out); (case side3 => exact Kd.C_nil _ _); (case side4 => exact Nat.le_refl _); rintro e w50 ⟨v242, rfl, ho0, hb⟩; refine ⟨_, rfl, ?_⟩; have n0_ := Aside0.mk (Kd.R_lower ho0 (below_size (bl2_ HB GE226 GE227))); have n1_ := Aside0.mk (blk_below (g := gb226) (bk_ BK226) hb); have n2_ := Aside0.mk (blk_below (g := gb227) (bk_ BK227) hb); have n3_ := Aside0.mk (below_step (bl2_ HB GE226 GE227) hb); clear BK226; clear BK227; clear HB; have HO243 := n0_; have BK226 := n1_; have BK227 := n2_; have HB := n3_; clear n0_ n1_ n2_ n3_; (try clear hb); (try clear hb2); (try clear hk); (try clear hi); (try clear ho0)))
     go_ret
     exact ⟨_, er_, kr_ HO243, bl2_ HB GE226 GE227⟩
 ·rw [if_neg c3] at H
  have c3b0 : decide (0 ≤ a1) = false := decide_eq_false c3
  clear c3
  replace H := Option.bind_eq_some_iff.mp H
  obtain ⟨t244, A510, H⟩ := H
  replace H : (some t244) = some r := H
  have A51 := Aside0.mk A510
  clear A510
  obtain rfl := Option.some.inj H
  go_enter Try.func15, Try.ntmps15
  go_wp2_with (first | ((with_reducible refine gate_dst (N := 2) rfl ?_); refine bx_ (N := 2) (cs := #[.int .i64 a0_0, .int .i64 a0_1, .int .i64 a0_2, .slice A0_3 l0_3.length c0_3, .int .i64 a0_4, .int .i64 a0_5, .int .i64 a0_6]) (t := 31) ?_; intro gb226 hg w52 hbox hb; have n0_ := Aside0.mk (below_step (bl0_ HB) hb); have n1_ := Aside0.mk (hbox); have n2_ := Aside0.mk ((by rw [hg]; exact (below_size (bl0_ HB)) : w.heap.size ≤ gb226)); have n3_ := Aside0.mk ((by rw [hg]; exact (below_size (bl0_ HB)) : w.heap.size ≤ gb226)); clear HB; have HB := n0_; have BK226 := n1_; have GW226 := n2_; have GE226 := n3_; clear n0_ n1_ n2_ n3_; clear hb hbox hg) | ((with_reducible refine gate_dst (N := 5) rfl ?_); refine bx_ (N := 5) (cs := #[.slice none 0 0, .int .i64 0]) (t := 46) ?_; intro gb227 hg w53 hbox hb; have n0_ := Aside0.mk (blk_below (g := gb226) (bk_ BK226) hb); have n1_ := Aside0.mk (below_step (bl1_ HB GE226) hb); have n2_ := Aside0.mk (hbox); have n3_ := Aside0.mk ((by rw [hg]; exact (below_size (bl1_ HB GE226)) : w.heap.size ≤ gb227)); have n4_ := Aside0.mk ((by rw [hg]; exact (below_size (bl1_ HB GE226)) : w.heap.size ≤ gb227)); have n5_ := Aside0.mk ((by rw [hg]; exact Nat.ne_of_lt (blk_lt (g := gb226) (bk_ BK226)) : gb226 ≠ gb227)); have n6_ := Aside0.mk ((by rw [hg]; exact Nat.ne_of_gt (blk_lt (g := gb226) (bk_ BK226)) : gb227 ≠ gb226)); clear BK226; clear HB; have BK226 := n0_; have HB := n1_; have BK227 := n2_; have GW227 := n3_; have GE227 := n4_; have NB226_227 := n5_; have NB227_226 := n6_; clear n0_ n1_ n2_ n3_ n4_ n5_ n6_; clear hb hbox hg; have hnb54 := NB227_226.out; have hnc54 := NB226_227.out; refine cz2_ BK227.out ?_; intro hcz55_0 hcz55_1 hfz55_0 hfz55_1; refine cz7_ BK226.out ?_; intro hcz56_0 hcz56_1 hcz56_2 hcz56_3 hcz56_4 hcz56_5 hcz56_6 hfz56_0 hfz56_1 hfz56_2 hfz56_3 hfz56_4 hfz56_5 hfz56_6) | ((with_reducible refine gate_callee (f := 37) rfl ?_); refine goesL_ (some 46) rfl rfl Try.func37 (by kernel_rfl) rfl #[.agg #[.int .i64 a0_0, .int .i64 a0_1, .int .i64 a0_2, .slice A0_3 l0_3.length c0_3, .int .i64 a0_4, .int .i64 a0_5, .int .i64 a0_6], .agg #[.slice none 0 0, .int .i64 2]] rfl ar_ ?_; (refine (basculeref03_AnswerBytes.calls k a0_0 a0_1 a0_2 _ _ l0_3 a0_4 a0_5 a0_6 _ _ ([] : List Int) 2 t244 _ ?side1 ?side2 ?side3 ?side4 A51.out).mono ?_); (case side1 => exact Kd.C_below HR0_3.out (bl2_ HB GE226 GE227)); (case side2 => exact HC0_3.out); (case side3 => exact Kd.C_nil _ _); (case side4 => exact Nat.le_refl _); rintro e w57 ⟨v245, rfl, ho0, hb⟩; refine ⟨_, rfl, ?_⟩; have n0_ := Aside0.mk (Kd.R_lower ho0 (below_size (bl2_ HB GE226 GE227))); have n1_ := Aside0.mk (blk_below (g := gb226) (o := .cells #[.int .i64 a0_0, .int .i64 a0_1, .int .i64 a0_2, .slice A0_3 l0_3.length c0_3, .int .i64 a0_4, .int .i64 a0_5, .int .i64 a0_6] 31 (0, 0)) (by (with_reducible repeat (first | refine blk_drewN ?_ _ | refine blk_drew ?_ | refine blk_alloc ?_ _)); refine blk_far ?_ NB226_227.out _; (with_reducible repeat (first | refine blk_drewN ?_ _ | refine blk_drew ?_ | refine blk_alloc ?_ _)); refine blk_far ?_ NB226_227.out _; (with_reducible repeat (first | refine blk_drewN ?_ _ | refine blk_drew ?_ | refine blk_alloc ?_ _)); exact BK226.out) hb); have n2_ := Aside0.mk (blk_below (g := gb227) (o := .cells #[.slice none 0 0, .int .i64 2] 46 (0, 0)) (by (with_reducible repeat (first | refine blk_drewN ?_ _ | refine blk_drew ?_ | refine blk_alloc ?_ _)); refine blk_put (cs := #[.slice none 0 0, .int .i64 0]) ?_ 1 _ rfl; (with_reducible repeat (first | refine blk_drewN ?_ _ | refine blk_drew ?_ | refine blk_alloc ?_ _)); refine blk_put (cs := #[.slice none 0 0, .int .i64 0]) ?_ 0 _ rfl; (with_reducible repeat (first | refine blk_drewN ?_ _ | refine blk_drew ?_ | refine blk_alloc ?_ _)); exact BK227.out) hb); have n3_ := Aside0.mk (below_step (bl2_ HB GE226 GE227) hb); clear BK226; clear BK227; clear HB; have HO246 := n0_; have BK226 := n1_; have BK227 := n2_; have HB := n3_; clear n0_ n1_ n2_ n3_; (try clear hb); (try clear hb2); (try clear hk); (try clear hi); (try clear ho0)))
  go_ret
  exact ⟨_, er_, kr_ HO246, bl2_ HB GE226 GE227⟩
end Go.Proofs.Ytlalpooiegganaa.PK
end

section
namespace Go.Proofs.Ytlalpooiegganaa.Mth
open Go.RowKit Go.Proofs.YtlalpooiegganaaW.PrintWords Go.Proofs.YtlalpooiegganaaW.PrintLast Go.Proofs.YtlalpooiegganaaW.PrintMore Go.Proofs.Ytlalpooiegganaa.ExtF Go.Proofs.Ytlalpooiegganaa.PG Go.Proofs.Ytlalpooiegganaa.ExtM Go.Proofs.Ytlalpooiegganaa.MathP
set_option linter.unusedVariables false
set_option linter.unusedSimpArgs false
def ansN (f v : Int) : Int := if f = 1 ∨ f = 2 then v % 2 else v % 65536
def ansV (f c v : Int) : List Int × Int := if v < 0 then ([], 2) else if f ≤ 4 ∨ f = 23 then (List.replicate c.toNat (ansN f v), 0) else ([], 0)
theorem ansN_bit {f v : Int} (h : f = 1 ∨ f = 2) : ansN f v = 0 ∨ ansN f v = 1 := by
 unfold ansN; rw [if_pos h]; omega
theorem ansN_word {f v : Int} : 0 ≤ ansN f v ∧ ansN f v ≤ 65535 := by
 unfold ansN; split <;> omega
theorem ansV_may {f a c : Int} {l : List Int} {o n r : Int} (h : mayB f a c l o n r = true) (v : Int) : ansMayB f c (ansV f c v).1 (ansV f c v).2 = true := by
 have I := may_is h
 have hf := I.fns
 unfold ansV ansMayB
 by_cases h0 : v < 0
 ·rw [if_pos h0, if_neg (by decide)]; rfl
 ·rw [if_neg h0]
  by_cases h1 : f ≤ 4 ∨ f = 23
  ·rw [if_pos h1, if_pos rfl]
   have hc := I.cnt (by omega)
   have hl : ((List.replicate c.toNat (ansN f v)).length : Int) = c := by rw [List.length_replicate]; omega
   by_cases h2 : f = 1 ∨ f = 2
   ·rw [if_pos h2, decide_eq_true hl, decide_eq_true (show Bits (List.replicate c.toNat (ansN f v)) from fun x hx => by rw [(List.mem_replicate.1 hx).2]; exact ansN_bit h2)]; rfl
   ·rw [if_neg h2, if_pos (by omega), decide_eq_true hl, decide_eq_true (show Words (List.replicate c.toNat (ansN f v)) from fun x hx => by rw [(List.mem_replicate.1 hx).2]; exact ansN_word)]; rfl
  ·rw [if_neg h1, if_pos rfl, if_neg (by omega), if_neg (by omega)]; rfl
theorem ansV_len {f a c : Int} {l : List Int} {o n r : Int} (h : mayB f a c l o n r = true) (v : Int) : (ansV f c v).1.length ≤ 125 ∨ (f = 1 ∨ f = 2) ∧ (ansV f c v).1.length ≤ 2000 := by
 have I := may_is h
 have hf := I.fns
 unfold ansV
 by_cases h0 : v < 0
 ·rw [if_pos h0]; exact .inl (Nat.zero_le _)
 ·rw [if_neg h0]
  by_cases h1 : f ≤ 4 ∨ f = 23
  ·rw [if_pos h1]
   have hc := I.cnt (by omega)
   have hr := I.regs
   show (List.replicate c.toNat (ansN f v)).length ≤ 125 ∨ (f = 1 ∨ f = 2) ∧ (List.replicate c.toNat (ansN f v)).length ≤ 2000
   rw [List.length_replicate]
   by_cases h2 : f = 1 ∨ f = 2
   ·exact .inr ⟨h2, by omega⟩
   ·exact .inl (by have := hr (by omega); omega)
  ·rw [if_neg h1]; exact .inl (Nat.zero_le _)
theorem ans_l0 (f a c : Int) (l : List Int) (o n r v : Int) (hf : f = 1 ∨ f = 2 ∨ f = 3 ∨ f = 4 ∨ f = 23) (hv : 0 ≤ v) (hc : 1 ≤ c ∧ c ≤ 2000) (out : List Int) (hK : ∀ k, 20000 ≤ k → basculeref03_AnswerBytes.f k f a c l o n r (List.replicate c.toNat (ansN f v)) 0 = some out) : ∀ (d i k : Nat), i + d = c.toNat → d + 20001 ≤ k →
 PK.basculelaw07_answer.l0 k v (i : Int) f a c l o n r (List.replicate i (ansN f v)) 0 = some out
 | 0, i, k, hi, hk => by
  obtain ⟨k, rfl⟩ := Nat.exists_eq_add_of_le' (show 1 ≤ k by omega)
  rw [PK.basculelaw07_answer.l0, if_neg (by omega), show i = c.toNat by omega, hK k (by omega)]
  rfl
 | d + 1, i, k, hi, hk => by
  obtain ⟨k, rfl⟩ := Nat.exists_eq_add_of_le' (show 1 ≤ k by omega)
  have hw : wrap64 ((i : Int) + 1) = ((i + 1 : Nat) : Int) := by unfold wrap64; omega
  have ih := ans_l0 f a c l o n r v hf hv hc out hK d (i + 1) k (by omega) (by omega)
  have hlen : (List.replicate i (ansN f v)).length < 17592186044416 := by rw [List.length_replicate]; omega
  have happ : ∀ y, ansN f v = y → List.replicate i (ansN f v) ++ [y] = List.replicate (i + 1) (ansN f v) := fun y hy => by rw [← hy, List.replicate_succ']
  have t2 : Int.tmod v 2 = v % 2 := Int.tmod_eq_emod_of_nonneg hv
  have t6 : Int.tmod v 65536 = v % 65536 := Int.tmod_eq_emod_of_nonneg hv
  rw [PK.basculelaw07_answer.l0, if_pos (by omega), t2, t6, hw]
  rcases hf with rfl | rfl | rfl | rfl | rfl
  ·rw [show PK.basculeref03_Bit.f 1 = some true from rfl, Option.bind_some, if_pos rfl, if_pos hlen, happ (v % 2) (by simp [ansN]), ih]
  ·rw [show PK.basculeref03_Bit.f 2 = some true from rfl, Option.bind_some, if_pos rfl, if_pos hlen, happ (v % 2) (by simp [ansN]), ih]
  ·rw [show PK.basculeref03_Bit.f 3 = some false from rfl, Option.bind_some, if_neg (by decide), if_neg (by decide), if_pos hlen, happ (v % 65536) (by simp [ansN]), ih]
  ·rw [show PK.basculeref03_Bit.f 4 = some false from rfl, Option.bind_some, if_neg (by decide), if_neg (by decide), if_pos hlen, happ (v % 65536) (by simp [ansN]), ih]
  ·rw [show PK.basculeref03_Bit.f 23 = some false from rfl, Option.bind_some, if_neg (by decide), if_neg (by decide), if_pos hlen, happ (v % 65536) (by simp [ansN]), ih]
theorem answer_f (k : Nat) (hk : 40000 ≤ k) {f a c : Int} {l : List Int} {o n r : Int} (h : mayB f a c l o n r = true) (v : Int) :
 PK.basculelaw07_answer.f k f a c l o n r v = some (ansB f a c l o n r (ansV f c v).1 (ansV f c v).2) := by
 have I := may_is h
 have hf := I.fns
 have hm := ansV_may h v
 have hlen := ansV_len h v
 have hK : ∀ k, 20000 ≤ k → basculeref03_AnswerBytes.f k f a c l o n r (ansV f c v).1 (ansV f c v).2 = some (ansB f a c l o n r (ansV f c v).1 (ansV f c v).2) := fun k hk => ransbytes_yes k f a c l o n r _ _ hk h hm (by omega)
 obtain ⟨k, rfl⟩ := Nat.exists_eq_add_of_le' (show 1 ≤ k by omega)
 unfold PK.basculelaw07_answer.f
 by_cases h0 : v < 0
 ·have e : ansV f c v = ([], 2) := by unfold ansV; rw [if_pos h0]
  rw [e] at hK ⊢
  rw [if_neg (show ¬ v ≥ 0 by omega), hK _ (by omega)]
  rfl
 ·rw [if_pos (show v ≥ 0 by omega)]
  by_cases h1 : f ≤ 4 ∨ f = 23
  ·have e : ansV f c v = (List.replicate c.toNat (ansN f v), 0) := by unfold ansV; rw [if_neg h0, if_pos h1]
   rw [e] at hK ⊢
   have hc := I.cnt (by omega)
   have hl := ans_l0 f a c l o n r v (by omega) (by omega) hc _ hK c.toNat 0 k (by omega) (by omega)
   have hj : PK.basculelaw07_answer.j0 (k + 1) v true f a c l o n r 0 = some (ansB f a c l o n r (List.replicate c.toNat (ansN f v)) 0) := by
    rw [PK.basculelaw07_answer.j0, if_pos rfl]
    exact hl
   by_cases h4 : f ≤ 4
   ·rw [if_pos h4]; exact hj
   ·rw [if_neg h4, show (f == 23) = true from beq_iff_eq.2 (by omega)]; exact hj
  ·have e : ansV f c v = ([], 0) := by unfold ansV; rw [if_neg h0, if_neg h1]
   rw [e] at hK ⊢
   rw [if_neg (show ¬ f ≤ 4 by omega), show (f == 23) = false from beq_eq_false_iff_ne.2 (by omega), PK.basculelaw07_answer.j0, if_neg (by decide), hK k (by omega)]
   rfl
theorem parse_answer {f a c : Int} {l : List Int} {o n r : Int} (h : mayB f a c l o n r = true) (v : Int) : ∃ K, PG.pdu_AnswerParse.f K f a c l o n r (ansB f a c l o n r (ansV f c v).1 (ansV f c v).2) = some ((ansV f c v).1, (ansV f c v).2, 0) := by
 have I := may_is h
 have hm := ansV_may h v
 refine ⟨200000, ?_⟩
 rw [MthD.pap_yes 200000 (Nat.le_refl _) h _ (MthD.ansB_bytes I (ans_is hm)) (MthD.ansB_size I (ansV_len h v)), MthD.ansP_ansB h hm]
 rfl
end Go.Proofs.Ytlalpooiegganaa.Mth
end

section
namespace Go.Proofs.Ytlalpooiegganaa.MsgH
open Go.RowKit Go.Proofs.YtlalpooiegganaaW.PrintWords Go.Proofs.YtlalpooiegganaaW.PrintLast Go.Proofs.YtlalpooiegganaaW.PrintMore Go.Proofs.Ytlalpooiegganaa.Core Go.Proofs.Ytlalpooiegganaa.Wk Go.Proofs.Ytlalpooiegganaa.PMasterWaits Go.Proofs.Ytlalpooiegganaa.Msg Go.Proofs.Ytlalpooiegganaa.MsgB Go.Proofs.Ytlalpooiegganaa.MsgC Go.Proofs.Ytlalpooiegganaa.MsgD Go.Proofs.Ytlalpooiegganaa.MsgE Go.Proofs.Ytlalpooiegganaa.MsgG
set_option linter.unusedVariables false
set_option linter.unusedSimpArgs false
set_option maxHeartbeats 4000000 in
set_option maxRecDepth 100000 in
theorem read_c (w : World) : Calls Try.prog 17 #[] w fun e w' => e = .returned (.agg #[.int .i64 3, .int .i64 0, .int .i64 1, .slice none 0 0, .int .i64 0, .int .i64 0, .int .i64 0]) ∧ Below w.heap.size w w' := by
 have hu31 := Try.underlying31
 have HB := Aside0.mk (Below.refl w.heap.size w)
 go_enter Try.func17, Try.ntmps17
 go_wp2_with (first | ((with_reducible refine gate_dst (N := 0) rfl ?_); refine bx_ (N := 0) (cs := #[.int .i64 0, .int .i64 0, .int .i64 0, .slice none 0 0, .int .i64 0, .int .i64 0, .int .i64 0]) (t := 31) ?_; intro gb212 hg w1 hbox hb; have n0_ := Aside0.mk (below_step (bl0_ HB) hb); have n1_ := Aside0.mk (hbox); have n2_ := Aside0.mk ((by rw [hg]; exact (below_size (bl0_ HB)) : w.heap.size ≤ gb212)); have n3_ := Aside0.mk ((by rw [hg]; exact (below_size (bl0_ HB)) : w.heap.size ≤ gb212)); clear HB; have HB := n0_; have BK212 := n1_; have GW212 := n2_; have GE212 := n3_; clear n0_ n1_ n2_ n3_; clear hb hbox hg; refine cz7_ BK212.out ?_; intro hcz2_0 hcz2_1 hcz2_2 hcz2_3 hcz2_4 hcz2_5 hcz2_6 hfz2_0 hfz2_1 hfz2_2 hfz2_3 hfz2_4 hfz2_5 hfz2_6))
 refine bodyPost_ret (results_cell_row rfl _ _ gb212 31 #[.int .i64 3, .int .i64 0, .int .i64 1, .slice none 0 0, .int .i64 0, .int .i64 0, .int .i64 0] (0, 0) _ rfl (by (with_reducible repeat (first | refine blk_drewN ?_ _ | refine blk_drew ?_ | refine blk_alloc ?_ _)); refine blk_put (cs := #[.int .i64 3, .int .i64 0, .int .i64 1, .slice none 0 0, .int .i64 0, .int .i64 0, .int .i64 0]) ?_ 6 _ rfl; (with_reducible repeat (first | refine blk_drewN ?_ _ | refine blk_drew ?_ | refine blk_alloc ?_ _)); refine blk_put (cs := #[.int .i64 3, .int .i64 0, .int .i64 1, .slice none 0 0, .int .i64 0, .int .i64 0, .int .i64 0]) ?_ 5 _ rfl; (with_reducible repeat (first | refine blk_drewN ?_ _ | refine blk_drew ?_ | refine blk_alloc ?_ _)); refine blk_put (cs := #[.int .i64 3, .int .i64 0, .int .i64 1, .slice none 0 0, .int .i64 0, .int .i64 0, .int .i64 0]) ?_ 4 _ rfl; (with_reducible repeat (first | refine blk_drewN ?_ _ | refine blk_drew ?_ | refine blk_alloc ?_ _)); refine blk_put (cs := #[.int .i64 3, .int .i64 0, .int .i64 1, .slice none 0 0, .int .i64 0, .int .i64 0, .int .i64 0]) ?_ 3 _ rfl; (with_reducible repeat (first | refine blk_drewN ?_ _ | refine blk_drew ?_ | refine blk_alloc ?_ _)); refine blk_put (cs := #[.int .i64 3, .int .i64 0, .int .i64 0, .slice none 0 0, .int .i64 0, .int .i64 0, .int .i64 0]) ?_ 2 _ rfl; (with_reducible repeat (first | refine blk_drewN ?_ _ | refine blk_drew ?_ | refine blk_alloc ?_ _)); refine blk_put (cs := #[.int .i64 3, .int .i64 0, .int .i64 0, .slice none 0 0, .int .i64 0, .int .i64 0, .int .i64 0]) ?_ 1 _ rfl; (with_reducible repeat (first | refine blk_drewN ?_ _ | refine blk_drew ?_ | refine blk_alloc ?_ _)); refine blk_put (cs := #[.int .i64 0, .int .i64 0, .int .i64 0, .slice none 0 0, .int .i64 0, .int .i64 0, .int .i64 0]) ?_ 0 _ rfl; (with_reducible repeat (first | refine blk_drewN ?_ _ | refine blk_drew ?_ | refine blk_alloc ?_ _)); exact BK212.out) Try.underlying31 rfl (by kernel_rfl)) rfl ?_
 exact ⟨rfl, bl1_ HB GE212⟩
set_option maxHeartbeats 4000000 in
set_option maxRecDepth 100000 in
theorem new_b0 (w : World) (wait again rest : Int) (h : wait < 1) : Calls Try.prog 8 #[.int .i64 wait, .int .i64 again, .int .i64 rest] w fun e w' => e = .returned (.tuple #[.pointer none, .int .i64 1]) ∧ w = w' := by
 have s1 : decide (wait < 1) = true := decide_eq_true h
 clear h
 go_enter Try.func8, Try.ntmps8
 go_wp2
 go_ret2
 exact ⟨rfl, rfl⟩
set_option maxHeartbeats 4000000 in
set_option maxRecDepth 100000 in
theorem new_b1 (w : World) (wait again rest : Int) (h1 : 1 ≤ wait) (h : again < 0) : Calls Try.prog 8 #[.int .i64 wait, .int .i64 again, .int .i64 rest] w fun e w' => e = .returned (.tuple #[.pointer none, .int .i64 1]) ∧ w = w' := by
 have s1 : decide (wait < 1) = false := decide_eq_false (by omega)
 have s2 : decide (again < 0) = true := decide_eq_true h
 clear h1 h
 go_enter Try.func8, Try.ntmps8
 go_wp2
 go_ret2
 exact ⟨rfl, rfl⟩
set_option maxHeartbeats 4000000 in
set_option maxRecDepth 100000 in
theorem new_b2 (w : World) (wait again rest : Int) (h1 : 1 ≤ wait) (h2 : 0 ≤ again) (h : 16 < again) : Calls Try.prog 8 #[.int .i64 wait, .int .i64 again, .int .i64 rest] w fun e w' => e = .returned (.tuple #[.pointer none, .int .i64 1]) ∧ w = w' := by
 have s1 : decide (wait < 1) = false := decide_eq_false (by omega)
 have s2 : decide (again < 0) = false := decide_eq_false (by omega)
 have s3 : decide (16 < again) = true := decide_eq_true h
 clear h1 h2 h
 go_enter Try.func8, Try.ntmps8
 go_wp2
 go_ret2
 exact ⟨rfl, rfl⟩
set_option maxHeartbeats 4000000 in
set_option maxRecDepth 100000 in
theorem new_b3 (w : World) (wait again rest : Int) (h1 : 1 ≤ wait) (h2 : 0 ≤ again) (h3 : again ≤ 16) (h : rest < 0) : Calls Try.prog 8 #[.int .i64 wait, .int .i64 again, .int .i64 rest] w fun e w' => e = .returned (.tuple #[.pointer none, .int .i64 1]) ∧ w = w' := by
 have s1 : decide (wait < 1) = false := decide_eq_false (by omega)
 have s2 : decide (again < 0) = false := decide_eq_false (by omega)
 have s3 : decide (16 < again) = false := decide_eq_false (by omega)
 have s4 : decide (rest < 0) = true := decide_eq_true h
 clear h1 h2 h3 h
 go_enter Try.func8, Try.ntmps8
 go_wp2
 go_ret2
 exact ⟨rfl, rfl⟩
theorem new_bad (w : World) (wait again rest : Int) (h : ¬ (1 ≤ wait ∧ 0 ≤ again ∧ again ≤ 16 ∧ 0 ≤ rest)) : Calls Try.prog 8 #[.int .i64 wait, .int .i64 again, .int .i64 rest] w fun e w' => e = .returned (.tuple #[.pointer none, .int .i64 1]) ∧ w = w' := by
 by_cases h1 : wait < 1
 ·exact new_b0 w wait again rest h1
 by_cases h2 : again < 0
 ·exact new_b1 w wait again rest (by omega) h2
 by_cases h3 : 16 < again
 ·exact new_b2 w wait again rest (by omega) (by omega) h3
 exact new_b3 w wait again rest (by omega) (by omega) (by omega) (by omega)
theorem apart {B : Nat} {W : World} {g m ga : Nat} {s : MS} {cs : Array Value} {T : TypeId} (h : IsM B W g m s) (hb : W.heap[ga]? = some (.cells cs T (0, 0))) (hT : T ≠ 73) : ¬ Gm g m ga := by
 obtain ⟨vl, vo, h1, _⟩ := h.out
 obtain ⟨f, n, h2, _⟩ := h.mp
 intro e
 rcases e with e | e
 ·exact blk_ne hb h1 hT e
 ·exact cell_nm hb h2 e
theorem w01 : wrap64 (0 + 1) = 1 := by unfold wrap64; omega
theorem ck1 : Chk.chkB 3 0 1 [] 0 0 0 = true := by decide
theorem ask_a {B : Nat} {w : World} {g m : Nat} {wait again pause now times last : Int} {rest : Int → Int} {out : Option SV} (h : IsM B w g m ⟨wait, again, pause, now, 0, [], out, times, last, rest⟩) (hB : B ≤ w.heap.size) (unit : Int) (h0 : 0 ≤ unit) (h1 : unit ≤ 247) : Calls Try.prog 11 #[.pointer (some ⟨g, 0, none⟩), .int .i64 unit, .agg #[.int .i64 3, .int .i64 0, .int .i64 1, .slice none 0 0, .int .i64 0, .int .i64 0, .int .i64 0]] w fun e w' => ∃ A' k', e = .returned (.tuple #[.int .i64 1, .int .i64 0]) ∧ IRow w' A' 0 [] ∧ IsM B w' g m ⟨wait, again, pause, now, 1, [⟨1, unit, 3, 0, 1, A', 0, k', 0, 0, 0⟩], out, times, last, rest⟩ ∧ Ext (Mm B g m) w w' := by
 have h := ask_c (q := ⟨0, 0, 3, 0, 1, none, 0, 0, 0, 0, 0⟩) (vs := []) h hB unit h0 h1 (by simp) (Ever.nil (Kd.int .i64)) rfl (by simp) ck1
 rw [w01] at h
 exact h.mono (fun e w' ⟨A', k', h1, h2, h3, h4, h5, h6⟩ => ⟨A', k', h1, h3, h4, h5⟩)
theorem lit_V {W : World} {bb g : Nat} (h : W.heap[bb]? = some (.cells #[.int .u8 3, .int .u8 2, .int .u8 0, .int .u8 7] 5 (0, 0))) (hn : bb ≠ g) : Ever (fun k => k = g) W (fun W => Kd.C (Kd.int .u8) W (some ⟨bb, 0, none⟩) 4 [3, 2, 0, 7]) :=
 Ever.ofRow (xs := [3, 2, 0, 7]) (n := 0) h (by decide) hn
theorem ap1 : ∃ K, PG.pdu_AnswerParse.f K 3 0 1 [] 0 0 0 [3, 2, 0, 7] = some ([7], 0, 0) := ⟨60, by decide +kernel⟩
theorem irow1 {W : World} {A : Option Addr} {x : Int} (h : IRow W A 1 [x]) : ∃ gv, A = some ⟨gv, 0, none⟩ ∧ W.cell? ⟨gv, 0, none⟩ = some (.int .i64 x) := by
 obtain ⟨g, cur, e, hb, hc⟩ := h.2.2 (by omega)
 exact ⟨_, e, (blk_cell hb 0).trans (hc 0 (by omega))⟩
set_option maxHeartbeats 4000000 in
set_option maxRecDepth 100000 in
theorem awake_c (w : World) : Calls Try.prog 9 #[] w fun e w' => e = .returned (.bool true) ∧ Below w.heap.size w w' := by
 have hu39 := Try.underlying39; have hu48 := Try.underlying48; have hu46 := Try.underlying46
 go_enter Try.func9, Try.ntmps9
 go_wp2_with (first | (go_at_call 8; refine (new_c _ 10 1 50 (by decide) (by decide) (by decide) (by decide)).mono ?_; rintro e w1 ⟨g, m, rfl, hg, hm, hg1, hm1, HI1, HB1⟩; have HI : Aside0 (IsM w.heap.size w1 g m _) := ⟨HI1 w.heap.size⟩; have HB := Aside0.mk HB1; have HG := Aside0.mk hg; have HM := Aside0.mk hm; clear HI1 HB1 hg hm hg1 hm1) | (go_at_call 17; refine (read_c _).mono ?_; rintro e w2 ⟨rfl, HBc⟩; have HI2 := Aside0.mk (HI.out.below HBc); have HB2 : Aside0 (Below w.heap.size w w2) := ⟨below_step HB.out HBc⟩; clear HBc HI HB) | (go_at_call 11; refine (ask_a HI2.out HB2.out.size 1 (by decide) (by decide)).mono ?_; rintro e w3 ⟨A', k', rfl, hir, HIx, HX⟩; have HR3 := Aside0.mk hir; have HI3 := Aside0.mk HIx; have HB3 : Aside0 (Below w.heap.size w w3) := ⟨belowT HB2.out (extM HX HG.out HM.out (Nat.le_refl _) HB2.out.size)⟩; clear HIx HX HI2 HB2 hir) | (go_at_call 12; refine (MsgE.step_send (xs := []) HI3.out HB3.out.size 0 (by decide) (by decide) (by decide) (by decide) HR3.out (Nat.zero_le _)).mono ?_; rintro e w4 ⟨va, vd, rfl, A4, k4, ⟨ga, ca, rfl, hga⟩, hd, hk4, hr4, HIx, HX, HKx⟩; obtain rfl : vd = .slice none 0 0 := hd; have HR4 := Aside0.mk (HKx.row HR3.out); have HI4 := Aside0.mk HIx; have HB4 : Aside0 (Below w.heap.size w w4) := ⟨belowT HB3.out (extM (extG HX) HG.out HM.out (Nat.le_refl _) HB3.out.size)⟩; have BKa := Aside0.mk hga; clear HIx HX HI3 HB3 hga HR3 hr4 hk4 HKx) | ((with_reducible refine gate_dst (N := 34) rfl ?_); refine bs_ev (N := 34) ?hg ?hd (cs := #[.int .u8 3, .int .u8 2, .int .u8 0, .int .u8 7]) (t := 5) (n := 4) ?hr ?_; (case hd => rfl); (case hg => rfl); (case hr => first | (go_simp; done) | (go_simp; rfl)); intro bb hbb w5 hbox HBc; have HGs := IsM.outS HI4.out; have HVb := Aside0.mk (lit_V (g := g) hbox (by omega)); have BKa5 := Aside0.mk (blk_below BKa.out HBc); have HR5 := Aside0.mk (irow_below HR4.out HBc); have HI5 := Aside0.mk (HI4.out.below HBc); have HB5 : Aside0 (Below w.heap.size w w5) := ⟨below_step HB4.out HBc⟩; clear HBc hbox hbb HI4 HB4 BKa HGs HR4) | (go_at_call 14; refine (MsgG.came_go (vs := []) (b := [3, 2, 0, 7]) (al := [7]) (code := 0) HI5.out HB5.out.size 3 (by decide) (by decide) (Nat.zero_le _) HR5.out (some ⟨bb, 0, none⟩) 4 (by decide) HVb.out (by decide) ap1).mono ?_; rintro e w6 ⟨va, rfl, ⟨gd, A6, k6, rfl, hk6, hgd, hr6⟩, HIx, HX, HKx⟩; have BKa6 := Ext.blk HX BKa5.out (apart HI5.out BKa5.out (by decide)); have la0 : w6.cell? ⟨ga, 1, none⟩ = some (.int .i64 1) := (blk_cell BKa6 1).trans rfl; clear BKa6; obtain ⟨gv, rfl, lv⟩ := irow1 hr6; have ld : w6.cell? ⟨gd, 1, none⟩ = some (.slice (some ⟨gv, 0, none⟩) 1 k6) := (blk_cell hgd 1).trans rfl; have HI6 := Aside0.mk HIx; have HB6 : Aside0 (Below w.heap.size w w6) := ⟨belowT HB5.out (extM (extG HX) HG.out HM.out (Nat.le_refl _) HB5.out.size)⟩; clear HIx HX HI5 HB5 hgd hr6 BKa5 HVb HR5 HKx) | (go_at_call 16; refine (count_none HI6.out HB6.out.size (by decide)).mono ?_; rintro e w' ⟨rfl, rfl⟩))
 go_ret
 exact ⟨rfl, HB6.out⟩
end Go.Proofs.Ytlalpooiegganaa.MsgH
end

section
namespace Go.Proofs.Ytlalpooiegganaa.MsgP
open Go.RowKit Go.Proofs.YtlalpooiegganaaW.PrintWords Go.Proofs.YtlalpooiegganaaW.PrintLast Go.Proofs.YtlalpooiegganaaW.PrintMore Go.Proofs.Ytlalpooiegganaa.Core Go.Proofs.Ytlalpooiegganaa.Wk Go.Proofs.Ytlalpooiegganaa.PMasterWaits Go.Proofs.Ytlalpooiegganaa.Msg Go.Proofs.Ytlalpooiegganaa.MsgB Go.Proofs.Ytlalpooiegganaa.MsgD Go.Proofs.Ytlalpooiegganaa.MsgE Go.Proofs.Ytlalpooiegganaa.MsgG
set_option linter.unusedVariables false
set_option linter.unusedSimpArgs false
abbrev RQ := PK.S31
def rc (q : RQ) (A : Option Addr) (c : Nat) : Array Value := #[.int .i64 q.f0, .int .i64 q.f1, .int .i64 q.f2, .slice A q.f3.length c, .int .i64 q.f4, .int .i64 q.f5, .int .i64 q.f6]
def mayQ (q : RQ) : Bool := Chk.chkB q.f0 q.f1 q.f2 q.f3 q.f4 q.f5 q.f6
theorem mayQ_b {q : RQ} (h : mayQ q = true) : ExtM.mayB q.f0 q.f1 q.f2 q.f3 q.f4 q.f5 q.f6 = true := by rw [← ExtM.chk_may]; exact h
theorem w_id (x : Int) (h0 : -9223372036854775808 ≤ x) (h1 : x ≤ 9223372036854775807) : wrap64 x = x := by unfold wrap64; omega
structure Elem (w : World) (ad : Addr) (k : Nat) (A3 : Option Addr) (c3 : Nat) (q : RQ) : Prop where
 cells : ∀ W, Below w.heap.size w W → W.cell? (ad.add (k * 7)) = some (.int .i64 q.f0) ∧ W.cell? ⟨(ad.add (k * 7)).block, (ad.add (k * 7)).off + 1, none⟩ = some (.int .i64 q.f1) ∧ W.cell? ⟨(ad.add (k * 7)).block, (ad.add (k * 7)).off + 2, none⟩ = some (.int .i64 q.f2) ∧ W.cell? ⟨(ad.add (k * 7)).block, (ad.add (k * 7)).off + 3, none⟩ = some (.slice A3 q.f3.length c3) ∧ W.cell? ⟨(ad.add (k * 7)).block, (ad.add (k * 7)).off + 4, none⟩ = some (.int .i64 q.f4) ∧ W.cell? ⟨(ad.add (k * 7)).block, (ad.add (k * 7)).off + 5, none⟩ = some (.int .i64 q.f5) ∧ W.cell? ⟨(ad.add (k * 7)).block, (ad.add (k * 7)).off + 6, none⟩ = some (.int .i64 q.f6)
 cap : q.f3.length ≤ c3
 row : ∀ W, Below w.heap.size w W → Kd.C (Kd.int .i64) W A3 q.f3.length q.f3
theorem elem_at {w : World} {A : Option Addr} {qs : List RQ} (h : Kd.C PK.k31 w A qs.length qs) (k : Nat) (hk : k < qs.length) : ∃ ad A3 c3, A = some ad ∧ Elem w ad k A3 c3 (qs.getD k PK.z31) := by
 obtain ⟨ad, A3, c3, e, h0, h1, h2, h3, h4, h5, h6, h7, h8⟩ := PK.at_T31 h (k : Int) (by omega) (by omega)
 have e1 : PK.rd_T31 qs (k : Int) = qs.getD k PK.z31 := by unfold PK.rd_T31; rw [Int.toNat_natCast]
 rw [Int.toNat_natCast, e1] at h0 h1 h2 h3 h4 h5 h6
 rw [e1] at h7 h8
 refine ⟨ad, A3, c3, e, ⟨fun W hW => ?_, h7, fun W hW => Kd.C_below h8 hW⟩⟩
 have mv : ∀ {a : Addr} {v : Value}, w.cell? a = some v → W.cell? a = some v := fun hx => (hW.cell (World.block_lt_of_cell? w _ hx)).trans hx
 exact ⟨mv h0, mv h1, mv h2, mv h3, mv h4, mv h5, mv h6⟩
theorem Elem.ever {w W : World} {ad : Addr} {k c3 : Nat} {A3 : Option Addr} {q : RQ} {M : Nat → Prop} (h : Elem w ad k A3 c3 q) (hB : Below w.heap.size w W) (hM : ∀ k, M k → w.heap.size ≤ k) : Ever M W (fun W => Kd.C (Kd.int .i64) W A3 q.f3.length q.f3) :=
 ⟨fun W1 h1 => h.row W1 ((Ext.of_below (M := M) hB |>.trans h1).below hM)⟩
def OkS (W : World) (x : SV) (j : Nat) (q : RQ) : Prop :=
 x.t = ((j + 1 : Nat) : Int) ∧ x.u = (j : Int) ∧ x.f = q.f0 ∧ x.a = q.f1 ∧ x.c = q.f2 ∧ x.l = q.f3.length ∧ x.o = q.f4 ∧ x.n = q.f5 ∧ x.r = q.f6 ∧ x.l ≤ x.k ∧ IRow W x.A x.l q.f3
def LineOk (W : World) (qs : List RQ) (i : Nat) (L : List SV) : Prop := ∀ j x, L[j]? = some x → OkS W x (i + j) (qs.getD (i + j) PK.z31)
theorem OkS.keeps {W W' : World} {x : SV} {j : Nat} {q : RQ} (h : OkS W x j q) (k : Keeps W W') : OkS W' x j q := by
 obtain ⟨h1, h2, h3, h4, h5, h6, h7, h8, h9, h10, h11⟩ := h
 exact ⟨h1, h2, h3, h4, h5, h6, h7, h8, h9, h10, k.row h11⟩
theorem LineOk.keeps {W W' : World} {qs : List RQ} {i : Nat} {L : List SV} (h : LineOk W qs i L) (k : Keeps W W') : LineOk W' qs i L := fun j x hj => (h j x hj).keeps k
theorem LineOk.below {W W' : World} {qs : List RQ} {i : Nat} {L : List SV} (h : LineOk W qs i L) (k : Below W.heap.size W W') : LineOk W' qs i L := h.keeps (keeps_below k)
theorem LineOk.nil (W : World) (qs : List RQ) (i : Nat) : LineOk W qs i [] := fun j x hj => by simp at hj
theorem LineOk.snoc {W : World} {qs : List RQ} {L : List SV} {y : SV} (h : LineOk W qs 0 L) (hy : OkS W y L.length (qs.getD L.length PK.z31)) : LineOk W qs 0 (L ++ [y]) := by
 intro j x hj
 by_cases hl : j < L.length
 ·rw [List.getElem?_append_left hl] at hj
  exact h j x hj
 ·rw [List.getElem?_append_right (by omega)] at hj
  have hj0 : j - L.length = 0 := by have := (List.getElem?_eq_some_iff.1 hj).1; simp at this; omega
  rw [hj0] at hj
  simp at hj
  subst hj
  rw [show 0 + j = L.length by omega]
  exact hy
theorem LineOk.tail {W : World} {qs : List RQ} {i : Nat} {y : SV} {xs : List SV} (h : LineOk W qs i (y :: xs)) : LineOk W qs (i + 1) xs := fun j x hj => by
 have := h (j + 1) x (by simpa using hj)
 rw [show i + 1 + j = i + (j + 1) by omega]
 exact this
theorem LineOk.head {W : World} {qs : List RQ} {i : Nat} {y : SV} {xs : List SV} (h : LineOk W qs i (y :: xs)) : OkS W y i (qs.getD i PK.z31) := h 0 y rfl
theorem may_q {w : World} {q : RQ} {A : Option Addr} {c : Nat} (hC : Kd.C (Kd.int .i64) w A q.f3.length q.f3) {b : Bool} (hb : mayQ q = b) : Calls Try.prog 10 #[.agg (rc q A c)] w fun e w' => e = .returned (.bool b) ∧ Below w.heap.size w w' := by
 have h := Chk.may_c q.f0 q.f1 q.f2 A c q.f3 q.f4 q.f5 q.f6 w hC
 rw [show Chk.chkB q.f0 q.f1 q.f2 q.f3 q.f4 q.f5 q.f6 = b from hb] at h
 exact h
theorem ask_q {B : Nat} {w : World} {g m k : Nat} {wt ag ps : Int} {qs : List RQ} {L : List SV} {A3 : Option Addr} {c3 : Nat} {q : RQ} (hq : qs.getD k PK.z31 = q) (h : IsM B w g m ⟨wt, ag, ps, 0, (k : Int), L, none, 0, 0, fun _ => 0⟩) (hB : B ≤ w.heap.size)
 (hL : LineOk w qs 0 L) (hLk : L.length = k) (hk6 : k < 60) (hV : Ever (Mm B g m) w (fun W => Kd.C (Kd.int .i64) W A3 q.f3.length q.f3)) (hl : q.f3.length ≤ 300) (hmay : mayQ q = true) :
 Calls Try.prog 11 #[.pointer (some ⟨g, 0, none⟩), .int .i64 (k : Int), .agg (rc q A3 c3)] w fun e w' => ∃ L', e = .returned (.tuple #[.int .i64 (((k + 1 : Nat) : Int)), .int .i64 0]) ∧ L'.length = k + 1 ∧ LineOk w' qs 0 L' ∧ IsM B w' g m ⟨wt, ag, ps, 0, ((k + 1 : Nat) : Int), L', none, 0, 0, fun _ => 0⟩ ∧ Ext (Mm B g m) w w' := by
 have e : wrap64 ((k : Int) + 1) = ((k + 1 : Nat) : Int) := by rw [w_id _ (by omega) (by omega)]; omega
 have h := ask_c (q := ⟨0, 0, q.f0, q.f1, q.f2, A3, q.f3.length, c3, q.f4, q.f5, q.f6⟩) (vs := q.f3) h hB (k : Int) (by omega) (by omega) (by omega) hV rfl (by omega) hmay
 refine h.mono (fun e' w' h => ?_)
 obtain ⟨A', k', h1, h2, h3, h4, h5, h6⟩ := h
 rw [e] at h1 h4
 refine ⟨_, h1, ?_, ?_, h4, h5⟩
 ·simp [hLk]
 ·refine (hL.keeps h6).snoc ?_
  rw [hLk, hq]
  exact ⟨rfl, rfl, rfl, rfl, rfl, rfl, rfl, rfl, rfl, h2, h3⟩
theorem step_q {B : Nat} {w : World} {g m i : Nat} {wt ag ps now tk times last : Int} {qs : List RQ} {y : SV} {xs : List SV} {q : RQ} (hq : qs.getD i PK.z31 = q) (h : IsM B w g m ⟨wt, ag, ps, now, tk, y :: xs, none, times, last, fun _ => 0⟩) (hB : B ≤ w.heap.size)
 (h0 : now ≤ (i : Int)) (hL : LineOk w qs i (y :: xs)) (hl : q.f3.length ≤ 300) (hn : xs.length ≤ 1000) {ti : Int} (hti : ti = ((i + 1 : Nat) : Int)) :
 Calls Try.prog 12 #[.pointer (some ⟨g, 0, none⟩), .int .i64 (i : Int)] w fun e w' => ∃ ga c A' k', e = .returned (.tuple #[.slice (some ⟨ga, 0, none⟩) 1 c, .slice none 0 0, .int .i64 0]) ∧
  w'.heap[ga]? = some (.cells #[.int .i64 ti, .int .i64 (i : Int), .int .i64 q.f0, .int .i64 q.f1, .int .i64 q.f2, .slice A' q.f3.length k', .int .i64 q.f4, .int .i64 q.f5, .int .i64 q.f6] 39 (0, 0)) ∧ q.f3.length ≤ k' ∧ IRow w' A' q.f3.length q.f3 ∧
  OkS w' y i q ∧ LineOk w' qs (i + 1) xs ∧ IsM B w' g m ⟨wt, ag, ps, (i : Int), tk, xs, some y, 1, (i : Int), fun _ => 0⟩ ∧ Ext (Gm g m) w w' := by
 have hy := hL.head
 rw [hq] at hy
 have hy0 := hy
 obtain ⟨y1, y2, y3, y4, y5, y6, y7, y8, y9, y10, y11⟩ := hy
 have h := step_send h hB (i : Int) (by omega) h0 (by show (0 : Int) ≤ (i : Int); omega) hn y11 (by omega)
 refine h.mono (fun e w' h => ?_)
 obtain ⟨va, vd, rfl, A', k', ⟨ga, c, rfl, hga⟩, hd, hk, hr, hI, hX, hK⟩ := h
 obtain rfl : vd = .slice none 0 0 := hd
 rw [y6] at hk hr
 have e1 : wrap64 (0 + 1) = 1 := by unfold wrap64; omega
 rw [e1] at hI
 refine ⟨ga, c, A', k', rfl, ?_, hk, hr, hy0.keeps hK, hL.tail.keeps hK, hI, hX⟩
 rw [hga]
 simp only [sc, y1, y2, y3, y4, y5, y6, y7, y8, y9, hti]
def ansQ (q : RQ) (v : Int) : List Int := Mth.ansB q.f0 q.f1 q.f2 q.f3 q.f4 q.f5 q.f6 (Mth.ansV q.f0 q.f2 v).1 (Mth.ansV q.f0 q.f2 v).2
theorem answer_q {w : World} {q : RQ} (hm : mayQ q = true) {A3 : Option Addr} {c3 : Nat} (hC : Kd.C (Kd.int .i64) w A3 q.f3.length q.f3) (hc : q.f3.length ≤ c3) (v : Int) :
 Calls Try.prog 15 #[.agg (rc q A3 c3), .int .i64 v] w fun e w' => ∃ A c, e = .returned (.slice A (ansQ q v).length c) ∧ (ansQ q v).length ≤ c ∧ (∀ M : Nat → Prop, (∀ k, M k → k < w.heap.size) → Ever M w' (fun W => Kd.C (Kd.int .u8) W A (ansQ q v).length (ansQ q v))) ∧ Below w.heap.size w w' := by
 have h := PK.basculelaw07_answer.calls 40000 q.f0 q.f1 q.f2 A3 c3 q.f3 q.f4 q.f5 q.f6 v (ansQ q v) w hC hc (Mth.answer_f 40000 (Nat.le_refl _) (mayQ_b hm) v)
 refine h.mono (fun e w' h => ?_)
 obtain ⟨v0, rfl, hR, hB⟩ := h
 obtain ⟨A, c, rfl, hcc, _⟩ := Kd.R_reads hR
 exact ⟨A, c, rfl, hcc, fun M hM => Ever.R hR hM, hB⟩
theorem same_q {w : World} {q : RQ} {A A' : Option Addr} {c c' : Nat} (hl : q.f3.length ≤ 300) (h1 : Kd.C (Kd.int .i64) w A q.f3.length q.f3) (k1 : q.f3.length ≤ c) (h2 : Kd.C (Kd.int .i64) w A' q.f3.length q.f3) (k2 : q.f3.length ≤ c') :
 Calls Try.prog 13 #[.agg (rc q A c), .agg (rc q A' c')] w fun e w' => e = .returned (.bool true) ∧ Below w.heap.size w w' :=
 PG.basculeref03_Same.calls 302 q.f0 q.f1 q.f2 A c q.f3 q.f4 q.f5 q.f6 q.f0 q.f1 q.f2 A' c' q.f3 q.f4 q.f5 q.f6 true w h1 k1 h2 k2 (MthD.same_f 302 _ _ _ _ _ _ _ (by omega) (by omega))
theorem came_q {B : Nat} {w : World} {g m i : Nat} {wt ag ps tk times last : Int} {rest : Int → Int} {line : List SV} {x : SV} {q : RQ} (h : IsM B w g m ⟨wt, ag, ps, (i : Int), tk, line, some x, times, last, rest⟩) (hB : B ≤ w.heap.size) (hx : OkS w x i q) (hm : mayQ q = true) (v : Int) (hv : 0 ≤ v)
 (A : Option Addr) (c : Nat) {bs : List Int} (hbs : bs = ansQ q v) (hc : bs.length ≤ c) (hV : Ever (fun k => k = g) w (fun W => Kd.C (Kd.int .u8) W A bs.length bs)) {ti : Int} (hti : ti = ((i + 1 : Nat) : Int)) :
 Calls Try.prog 14 #[.pointer (some ⟨g, 0, none⟩), .int .i64 (i : Int), .int .i64 (i : Int), .slice A bs.length c] w fun e w' => ∃ gd A' l' k', e = .returned (.tuple #[.slice (some ⟨gd, 0, none⟩) 1 1, .int .i64 0]) ∧
  w'.heap[gd]? = some (.cells #[.int .i64 ti, .slice A' l' k', .int .i64 0, .bool false] 48 (0, 0)) ∧ IsM B w' g m ⟨wt, ag, ps, (i : Int), tk, line, none, times, last, rest⟩ ∧ Ext (Gm g m) w w' ∧ Keeps w w' := by
 obtain ⟨y1, y2, y3, y4, y5, y6, y7, y8, y9, y10, y11⟩ := hx
 have hlen := Mth.ansV_len (mayQ_b hm) v
 have hcode : (Mth.ansV q.f0 q.f2 v).2 = 0 := by
  unfold Mth.ansV
  rw [if_neg (by omega)]
  split <;> rfl
 have hp : ∃ K, PG.pdu_AnswerParse.f K x.f x.a x.c q.f3 x.o x.n x.r bs = some ((Mth.ansV q.f0 q.f2 v).1, 0, 0) := by
  rw [y3, y4, y5, y7, y8, y9, hbs]
  have := Mth.parse_answer (mayQ_b hm) v
  rw [hcode] at this
  unfold ansQ
  rw [hcode]
  exact this
 have h := came_go h hB (i : Int) (by omega) (Int.le_refl _) (vs := q.f3) y10 y11 A c hc hV (by omega) hp
 rw [y2] at h
 refine h.mono (fun e w' h => ?_)
 obtain ⟨va, rfl, ⟨gd, A', k', rfl, hk, hgd, hr⟩, hI, hX, hK⟩ := h
 rw [y1] at hgd
 exact ⟨gd, A', _, k', rfl, by rw [hti]; exact hgd, hI, hX, hK⟩
end Go.Proofs.Ytlalpooiegganaa.MsgP
end

/- The reference's Good, Sum, Add in plain words. (ported from seat g12 by port_good.py) -/
import Derived.Test.YtabjlanomebonaaMath
import Derived.Test.YtabjlanomebonaaPBx8
import Derived.Test.YtabjlanomebonaaPBx9
import Derived.Test.YtabjlanomebonaaPBx10
import Derived.Test.YtabjlanomebonaaPBx11
import Derived.Test.YtabjlanomebonaaPBx12
import Derived.Test.YtabjlanomebonaaPBx13
import Derived.Test.YtabjlanomebonaaExtC
namespace Go.Proofs.Ytabjlanomebonaa.HandGood
open Go.RowKit Go.Proofs.YtabjlanomebonaaW.PrintWords Go.Proofs.YtabjlanomebonaaW.PrintLast Go.Proofs.YtabjlanomebonaaW.PrintMore Go.Proofs.Ytabjlanomebonaa.Ext Go.Proofs.Ytabjlanomebonaa.ExtC Go.Proofs.Ytabjlanomebonaa.PB Go.Proofs.Ytabjlanomebonaa.Math
set_option linter.unusedVariables false
set_option linter.unusedSimpArgs false
theorem bind_of {α β : Type} {x : Option α} {a : α} {f : α → Option β} {r : Option β} (h1 : x = some a) (h2 : f a = r) : x.bind f = r := by rw [h1]; exact h2
theorem rd_b {b : List Int} (h : Bytes b) (i : Int) : 0 ≤ rd b i ∧ rd b i < 256 := bytes_rd h i
theorem wp_copy_lit {P : Program} {ops : Array Oper} {rest : List Oper} {o : Oper} {a : Act} {Q : Exit → Act → World → Prop} {W0 : World} (hgd : o.guard = none) (s x : Operand) (t e : TypeId) (k : IntKind)
    (ho : o.op = .call { callee := .builtin .append, args := #[s, x], argTypes := #[t, t] }) (ht : P.underlying t = some (.slice e)) (hinfo : (P.info? e).map (fun i => (i.zero, i.size, i.bytes)) = some (some (.int k 0), 1, 1))
    (ys : List Int) (A : Option Addr) (c : Nat) (hs : a.eval s = .slice (some ⟨W0.heap.size, 0, none⟩) 0 0) (hx : a.eval x = .slice A ys.length c) (HC : Kd.C (Kd.int k) W0 A ys.length ys) (hl : ys.length ≤ 140737488355328)
    (h : ∀ A' c' w1, Kd.C (Kd.int k) w1 A' ys.length ys → ys.length ≤ c' → Below W0.heap.size W0 w1 → wpList P ops Q rest (a.put o.dst (.slice A' ys.length c')) w1) :
    wpList P ops Q (o :: rest) a (W0.alloc (.cells #[] e)) := by
  have hown := own_lit W0 W0.heap.size e k [] (Nat.le_refl _) (by simp)
  refine print_append_row (w0 := W0) W0.heap.size hgd s x t e k 1 ho ht hinfo (by omega) _ [] ys A ys.length c hs hx hown (ReadsInt.below (Kd.reads_of_C HC) (below_alloc (Below.refl _ _) _)) (below_alloc (Below.refl _ _) _) (by simp) (by simp; omega) ?_
  intro v1 w1 HO HB _ _
  obtain ⟨A1, c1, rfl, hc1, HC1⟩ := Kd.R_reads (Kd.R_of_own (ok := fun _ => True) HO (fun _ _ => trivial))
  exact h A1 c1 w1 HC1 hc1 HB

section
theorem more_ {P : Program} {ops : Array Oper} {Q : Exit → Act → World → Prop} {md : Region.Mode} {S S' : World → Prop} (hS : ∀ w, S' w → S w) : ∀ (fuel : Nat) (l : Array Bool) (a : Act) (w : World),
    S' w → wpAnyLast P md ops Q S' [] fuel l a w → wpAnyLast P md ops Q S [] fuel l a w
  | 0, _, _, _, _, h => h
  | fuel + 1, l, a, w, hw, h => ⟨h.1, fun i hi => wpOp_mono (fun a' w' hh => ⟨fun hn _ => hS _ (hh.1 hn hw), more_ hS fuel _ a' w' (hh.1 (by simp) hw) hh.2⟩) (h.2 i hi)⟩
theorem more1_ {P : Program} {ops : Array Oper} {Q : Exit → Act → World → Prop} {md : Region.Mode} {S S' : World → Prop} {fuel : Nat} {l : Array Bool} {a : Act} {w : World} (hS : ∀ w, S' w → S w)
    (hw : S' w) (h : S' w → wpAnyLast P md ops Q S' [] fuel l a w) : wpAnyLast P md ops Q S [] fuel l a w := more_ hS fuel l a w hw (h hw)

end
theorem both_f (a b : List Int) (h : a.length + b.length ≤ 140737488350000) : basculeref01_Both.f a b = some (a ++ b) := by
  unfold basculeref01_Both.f
  rw [if_pos (by simp; omega)]
  simp only [Option.bind_some]
  rw [if_pos (by simp; omega)]
  simp
theorem step_l0 (d : Nat) : ∀ (k i t : Nat), i + d = 8 → t < 65536 → d + 40 ≤ k → basculeref02_Step.l0 k (t : Int) (i : Int) = some ((citer d t : Nat) : Int) := by
  induction d with
  | zero =>
    intro k i t hi ht hk
    obtain ⟨k, rfl⟩ : ∃ m, k = m + 1 := ⟨k - 1, by omega⟩
    simp only [basculeref02_Step.l0]
    rw [if_neg (by omega)]
    rfl
  | succ d ih =>
    intro k i t hi ht hk
    obtain ⟨k, rfl⟩ : ∃ m, k = m + 1 := ⟨k - 1, by omega⟩
    simp only [basculeref02_Step.l0]
    rw [if_pos (by omega), tmod2, tdiv2 t (by omega)]
    have hw : wrap64 ((i : Int) + 1) = ((i + 1 : Nat) : Int) := by rw [wrap64_id _ (by omega) (by omega)]; omega
    rw [hw]
    simp only [citer]
    by_cases h : t % 2 = 1
    · rw [if_pos (by omega)]
      have hx := xor_f k (t / 2) 40961 (by omega) (by omega) (by omega)
      rw [show ((40961 : Nat) : Int) = 40961 from rfl] at hx
      rw [hx]
      simp only [Option.bind_some]
      have hc : cbit t = t / 2 ^^^ 40961 := by unfold cbit; rw [h, Nat.mul_one]
      rw [← hc]
      exact ih k (i + 1) (cbit t) (by omega) (cbit_lt t ht) (by omega)
    · rw [if_neg (by omega)]
      have hc : cbit t = t / 2 := by unfold cbit; rw [show t % 2 = 0 from by omega, Nat.mul_zero, Nat.xor_zero]
      rw [← hc]
      exact ih k (i + 1) (cbit t) (by omega) (cbit_lt t ht) (by omega)
theorem refStep_f (k s x : Nat) (hs : s < 65536) (hx : x < 256) (hk : 50 ≤ k) : basculeref02_Step.f k (s : Int) (x : Int) = some ((crcStep s x : Nat) : Int) := by
  unfold basculeref02_Step.f
  rw [xor_f k s x hs (by omega) (by omega)]
  simp only [Option.bind_some]
  exact step_l0 8 k 0 (s ^^^ x) (by omega) (Nat.xor_lt_two_pow (n := 16) hs (by omega)) (by omega)
theorem refsum_l0 (l : List Int) (hb : Bytes l) (hl : l.length ≤ 1000000) (d : Nat) : ∀ (k i s : Nat), s < 65536 → i + d = l.length → d + 60 ≤ k →
    basculeref02_Sum.l0 k l (s : Int) (i : Int) = some ((crcN s (l.drop i) : Nat) : Int) := by
  induction d with
  | zero =>
    intro k i s hs hi hk
    obtain ⟨k, rfl⟩ : ∃ m, k = m + 1 := ⟨k - 1, by omega⟩
    rw [basculeref02_Sum.l0, if_neg (by omega), List.drop_of_length_le (by omega)]
    rfl
  | succ d ih =>
    intro k i s hs hi hk
    obtain ⟨k, rfl⟩ : ∃ m, k = m + 1 := ⟨k - 1, by omega⟩
    have hlt : i < l.length := by omega
    have hw : wrap64 ((i : Int) + 1) = ((i + 1 : Nat) : Int) := by rw [wrap64_id _ (by omega) (by omega)]; omega
    have hx := hb l[i] (List.getElem_mem _)
    rw [basculeref02_Sum.l0, if_pos (by omega), if_pos (by omega), rd_nat i hlt, wrap64_id _ (by omega) (by omega), hw]
    obtain ⟨x, hx2⟩ := Int.eq_ofNat_of_zero_le hx.1
    rw [hx2, refStep_f k s x hs (by omega) (by omega), Option.bind_some, ih k (i + 1) _ (crcStep_lt s x hs (by omega)) (by omega) (by omega), List.drop_eq_getElem_cons hlt, hx2]
    rfl
theorem refsum_f (l : List Int) (hb : Bytes l) (hl : l.length ≤ 1000000) (k : Nat) (hk : l.length + 60 ≤ k) : basculeref02_Sum.f k l = some ((crcN 65535 l : Nat) : Int) := by
  have := refsum_l0 l hb hl l.length k 0 65535 (by omega) (by omega) hk
  rw [List.drop_zero] at this
  exact this
theorem refadd_f (l : List Int) (hb : Bytes l) (hl : l.length ≤ 1000000) (k : Nat) (hk : l.length + 60 ≤ k) : basculeref02_Add.f k l = some (l ++ [((crcN 65535 l % 256 : Nat) : Int), ((crcN 65535 l / 256 : Nat) : Int)]) := by
  have hlt := crcN_lt l 65535 (by omega) hb
  unfold basculeref02_Add.f
  rw [refsum_f l hb hl k hk, Option.bind_some]
  generalize crcN 65535 l = n at hlt
  rw [Int.tmod_eq_emod_of_nonneg (by omega), Int.tdiv_eq_ediv_of_nonneg (by omega), wrap64_id _ (by omega) (by omega), both_f _ _ (by simp; omega)]
  simp only [Option.bind_some]
  congr 2
  simp only [List.cons.injEq, and_true]
  omega
theorem str_one {l m : List Int} (hl : Bytes l) (hm : Bytes m) (h2 : l.map (fun n => UInt8.ofNat n.toNat) = m.map (fun n => UInt8.ofNat n.toNat)) : l = m := by
  have back : ∀ {x : List Int}, Bytes x → (x.map (fun n => UInt8.ofNat n.toNat)).map (fun b => (b.toNat : Int)) = x := by
    intro x hx
    rw [List.map_map]
    conv => rhs; rw [← List.map_id x]
    apply List.map_congr_left
    intro n hn
    have := hx n hn
    simp only [Function.comp, id]
    rw [UInt8.toNat_ofNat']
    omega
  rw [← back hl, ← back hm, h2]
theorem str_beq {l m : List Int} (hl : Bytes l) (hm : Bytes m) : ((strOfNums l).toList == (strOfNums m).toList) = decide (l = m) := by
  rw [Bool.eq_iff_iff]
  simp only [beq_iff_eq, decide_eq_true_eq]
  constructor
  · intro h
    rw [ByteArray.toList_eq, ByteArray.toList_eq, strOfNums_data, strOfNums_data] at h
    exact str_one hl hm h
  · intro h; rw [h]

set_option maxHeartbeats 8000000 in
set_option maxRecDepth 1000000 in
theorem refgood_short (A0 : Option Addr) (n0 c0 : Nat) (w : World) (h2 : decide ((2 : Int) ≤ (n0 : Int)) = false) :
    Calls Try.prog 42 #[.slice A0 n0 c0] w fun e w' => e = .returned (.bool false) ∧ Below w.heap.size w w' := by
  have HB0 := Aside0.mk (Below.refl w.heap.size w)
  go_enter Try.func42, Try.ntmps42
  go_wp2
  refine start_ (n := 16) (S := fun W => True) (ds := []) #[false, false, false, false, false, false, false, false, false, false, false, false, false, false, false, false] (by kernel_rfl) rfl rfl ?_ (fun hHeld => ?_)
  · exact trivial
  refine pure_ (i := 0) (N := some 3) (v := ?_) (a' := ?_) #[true, false, false, false, false, false, false, false, false, false, false, false, false, false, false, false] rfl rfl (by kernel_rfl) (fun _ _ _ h => h) (Or.inl ⟨by rfl, ?_⟩) ?_ ?_
  rotate_left
  · intro w'
    go_simp
    with_reducible rfl
  rotate_left
  · simp only [Act.put, List.setIfInBounds_toArray, List.set_cons_zero, List.set_cons_succ, i64_w, i32_w]
    rfl
  refine pure_ (i := 1) (N := some 4) (v := ?_) (a' := ?_) #[true, true, false, false, false, false, false, false, false, false, false, false, false, false, false, false] rfl rfl (by kernel_rfl) (fun _ _ _ h => h) (Or.inl ⟨by rfl, ?_⟩) ?_ ?_
  rotate_left
  · intro w'
    go_simp
    with_reducible rfl
  rotate_left
  · simp only [Act.put, List.setIfInBounds_toArray, List.set_cons_zero, List.set_cons_succ, i64_w, i32_w]
    rfl
  refine pure_ (i := 2) (N := some 5) (v := ?_) (a' := ?_) #[true, true, true, false, false, false, false, false, false, false, false, false, false, false, false, false] rfl rfl (by kernel_rfl) (fun _ _ _ h => h) (Or.inl ⟨by rfl, ?_⟩) ?_ ?_
  rotate_left
  · intro w'
    go_simp
    with_reducible rfl
  rotate_left
  · simp only [Act.put, List.setIfInBounds_toArray, List.set_cons_zero, List.set_cons_succ, i64_w, i32_w]
    rfl
  refine pure_ (i := 3) (N := some 6) (v := ?_) (a' := ?_) #[true, true, true, true, false, false, false, false, false, false, false, false, false, false, false, false] rfl rfl (by kernel_rfl) (fun _ _ _ h => h) (Or.inl ⟨by rfl, ?_⟩) ?_ ?_
  rotate_left
  · intro w'
    go_simp
    with_reducible rfl
  rotate_left
  · simp only [Act.put, List.setIfInBounds_toArray, List.set_cons_zero, List.set_cons_succ, i64_w, i32_w]
    rfl
  refine pure_ (i := 4) (N := some 7) (v := undef) (a' := ?_) #[true, true, true, true, true, false, false, false, false, false, false, false, false, false, false, false] rfl rfl (by kernel_rfl) (fun _ _ _ h => h) (Or.inr ⟨by rfl, rfl⟩) ?_ ?_
  rotate_left
  · simp only [Act.put, List.setIfInBounds_toArray, List.set_cons_zero, List.set_cons_succ, i64_w, i32_w]
    rfl
  refine pure_ (i := 5) (N := some 8) (v := undef) (a' := ?_) #[true, true, true, true, true, true, false, false, false, false, false, false, false, false, false, false] rfl rfl (by kernel_rfl) (fun _ _ _ h => h) (Or.inr ⟨by rfl, rfl⟩) ?_ ?_
  rotate_left
  · simp only [Act.put, List.setIfInBounds_toArray, List.set_cons_zero, List.set_cons_succ, i64_w, i32_w]
    rfl
  refine pure_ (i := 6) (N := some 9) (v := undef) (a' := ?_) #[true, true, true, true, true, true, true, false, false, false, false, false, false, false, false, false] rfl rfl (by kernel_rfl) (fun _ _ _ h => h) (Or.inr ⟨by rfl, rfl⟩) ?_ ?_
  rotate_left
  · simp only [Act.put, List.setIfInBounds_toArray, List.set_cons_zero, List.set_cons_succ, i64_w, i32_w]
    rfl
  refine pure_ (i := 7) (N := some 10) (v := undef) (a' := ?_) #[true, true, true, true, true, true, true, true, false, false, false, false, false, false, false, false] rfl rfl (by kernel_rfl) (fun _ _ _ h => h) (Or.inr ⟨by rfl, rfl⟩) ?_ ?_
  rotate_left
  · simp only [Act.put, List.setIfInBounds_toArray, List.set_cons_zero, List.set_cons_succ, i64_w, i32_w]
    rfl
  refine pure_ (i := 8) (N := some 11) (v := undef) (a' := ?_) #[true, true, true, true, true, true, true, true, true, false, false, false, false, false, false, false] rfl rfl (by kernel_rfl) (fun _ _ _ h => h) (Or.inr ⟨by rfl, rfl⟩) ?_ ?_
  rotate_left
  · simp only [Act.put, List.setIfInBounds_toArray, List.set_cons_zero, List.set_cons_succ, i64_w, i32_w]
    rfl
  refine pure_ (i := 9) (N := some 12) (v := undef) (a' := ?_) #[true, true, true, true, true, true, true, true, true, true, false, false, false, false, false, false] rfl rfl (by kernel_rfl) (fun _ _ _ h => h) (Or.inr ⟨by rfl, rfl⟩) ?_ ?_
  rotate_left
  · simp only [Act.put, List.setIfInBounds_toArray, List.set_cons_zero, List.set_cons_succ, i64_w, i32_w]
    rfl
  refine pure_ (i := 10) (N := some 13) (v := undef) (a' := ?_) #[true, true, true, true, true, true, true, true, true, true, true, false, false, false, false, false] rfl rfl (by kernel_rfl) (fun _ _ _ h => h) (Or.inr ⟨by rfl, rfl⟩) ?_ ?_
  rotate_left
  · simp only [Act.put, List.setIfInBounds_toArray, List.set_cons_zero, List.set_cons_succ, i64_w, i32_w]
    rfl
  refine pure_ (i := 11) (N := some 14) (v := undef) (a' := ?_) #[true, true, true, true, true, true, true, true, true, true, true, true, false, false, false, false] rfl rfl (by kernel_rfl) (fun _ _ _ h => h) (Or.inr ⟨by rfl, rfl⟩) ?_ ?_
  rotate_left
  · simp only [Act.put, List.setIfInBounds_toArray, List.set_cons_zero, List.set_cons_succ, i64_w, i32_w]
    rfl
  refine pure_ (i := 12) (N := some 15) (v := undef) (a' := ?_) #[true, true, true, true, true, true, true, true, true, true, true, true, true, false, false, false] rfl rfl (by kernel_rfl) (fun _ _ _ h => h) (Or.inr ⟨by rfl, rfl⟩) ?_ ?_
  rotate_left
  · simp only [Act.put, List.setIfInBounds_toArray, List.set_cons_zero, List.set_cons_succ, i64_w, i32_w]
    rfl
  refine pure_ (i := 13) (N := some 16) (v := undef) (a' := ?_) #[true, true, true, true, true, true, true, true, true, true, true, true, true, true, false, false] rfl rfl (by kernel_rfl) (fun _ _ _ h => h) (Or.inr ⟨by rfl, rfl⟩) ?_ ?_
  rotate_left
  · simp only [Act.put, List.setIfInBounds_toArray, List.set_cons_zero, List.set_cons_succ, i64_w, i32_w]
    rfl
  refine pure_ (i := 14) (N := some 17) (v := ?_) (a' := ?_) #[true, true, true, true, true, true, true, true, true, true, true, true, true, true, true, false] rfl rfl (by kernel_rfl) (fun _ _ _ h => h) (Or.inl ⟨by rfl, ?_⟩) ?_ ?_
  rotate_left
  · intro w'
    go_simp
    with_reducible rfl
  rotate_left
  · simp only [Act.put, List.setIfInBounds_toArray, List.set_cons_zero, List.set_cons_succ, i64_w, i32_w]
    rfl
  refine pure_ (i := 15) (N := some 2) (v := ?_) (a' := ?_) #[true, true, true, true, true, true, true, true, true, true, true, true, true, true, true, true] rfl rfl (by kernel_rfl) (fun _ _ _ h => h) (Or.inl ⟨by rfl, ?_⟩) ?_ ?_
  rotate_left
  · intro w'
    go_simp
    with_reducible rfl
  rotate_left
  · simp only [Act.put, List.setIfInBounds_toArray, List.set_cons_zero, List.set_cons_succ, i64_w, i32_w]
    rfl
  refine done_ (by kernel_rfl) ?_
  go_wp2
  go_ret
  exact ⟨rfl, (by repeat (first | exact HB0.out | apply below_alloc | apply pw_below_drewN | apply below_drew1 | apply below_drew))⟩
set_option maxHeartbeats 8000000 in
set_option maxRecDepth 1000000 in
theorem refgood_two (KK : Nat) (A0 : Option Addr) (c0 : Nat) (l0 p q : List Int) (w : World) (HC0 : Aside0 (Kd.C (Kd.int .u8) w A0 l0.length l0)) (hc0 : l0.length ≤ c0) (hl : l0.length ≤ 600) (h2 : decide ((2 : Int) ≤ (l0.length : Int)) = true) (h2' : 2 ≤ l0.length)
    (hp : p = l0.take (l0.length - 2)) (fadd : Aside0 (basculeref02_Add.f KK p = some q)) :
    Calls Try.prog 42 #[.slice A0 l0.length c0] w fun e w' => e = .returned (.bool ((strOfNums q).toList == (strOfNums l0).toList)) ∧ Below w.heap.size w w' := by
  have HB0 := Aside0.mk (Below.refl w.heap.size w)
  obtain ⟨i0, hi, hz0, hz1, hz2⟩ := info_parts Ext.info5
  obtain ⟨hcut, hcutr, hcutl⟩ := print_take_int (P := Try.prog) (k := .u8) 22 5 Try.underlying22 hi hz1 A0 c0 l0 ((l0.length : Int) - 2) (by omega) (by omega) hc0
  rw [show ((l0.length : Int) - 2).toNat = l0.length - 2 from by omega, ← hp] at hcut hcutr hcutl
  rw [← wrap64_id ((l0.length : Int) - 2) (by omega) (by omega)] at hcut
  have HCp := Aside0.mk (Kd.C_of_reads (d := (0 : Int)) (h1 := fun _ => rfl) (hcutr _ (Kd.reads_of_C HC0.out)))
  clear hcutr hp
  go_enter Try.func42, Try.ntmps42
  go_wp2
  refine start_ (n := 16) (S := fun W => Sem.run Try.prog (convert 22 9 (.slice A0 l0.length c0)) W = .ok (.string (strOfNums l0)) W) (ds := []) #[false, false, false, false, false, false, false, false, false, false, false, false, false, false, false, false] (by kernel_rfl) rfl rfl ?_ (fun hHeld => ?_)
  · exact (string_of_reads (P := Try.prog) (c := c0) Try.underlying22 Try.underlying5 Try.underlying9 (Kd.reads_of_C (by (with_reducible repeat (first | refine Kd.C_alloc ?_ _ | refine Kd.C_drewN ?_ _ | refine Kd.C_drew ?_)); exact HC0.out)))
  refine pure_ (i := 0) (N := some 3) (v := ?_) (a' := ?_) #[true, false, false, false, false, false, false, false, false, false, false, false, false, false, false, false] rfl rfl (by kernel_rfl) (fun _ _ _ h => h) (Or.inl ⟨by rfl, ?_⟩) ?_ ?_
  rotate_left
  · intro w'
    go_simp
    with_reducible rfl
  rotate_left
  · simp only [Act.put, List.setIfInBounds_toArray, List.set_cons_zero, List.set_cons_succ, i64_w, i32_w]
    rfl
  refine pure_ (i := 1) (N := some 4) (v := ?_) (a' := ?_) #[true, true, false, false, false, false, false, false, false, false, false, false, false, false, false, false] rfl rfl (by kernel_rfl) (fun _ _ _ h => h) (Or.inl ⟨by rfl, ?_⟩) ?_ ?_
  rotate_left
  · intro w'
    go_simp
    with_reducible rfl
  rotate_left
  · simp only [Act.put, List.setIfInBounds_toArray, List.set_cons_zero, List.set_cons_succ, i64_w, i32_w]
    rfl
  refine pure_ (i := 2) (N := some 5) (v := ?_) (a' := ?_) #[true, true, true, false, false, false, false, false, false, false, false, false, false, false, false, false] rfl rfl (by kernel_rfl) (fun _ _ _ h => h) (Or.inl ⟨by rfl, ?_⟩) ?_ ?_
  rotate_left
  · intro w'
    go_simp
    with_reducible rfl
  rotate_left
  · simp only [Act.put, List.setIfInBounds_toArray, List.set_cons_zero, List.set_cons_succ, i64_w, i32_w]
    rfl
  refine pure_ (i := 3) (N := some 6) (v := ?_) (a' := ?_) #[true, true, true, true, false, false, false, false, false, false, false, false, false, false, false, false] rfl rfl (by kernel_rfl) (fun _ _ _ h => h) (Or.inl ⟨by rfl, ?_⟩) ?_ ?_
  rotate_left
  · intro w'
    go_simp
    with_reducible rfl
  rotate_left
  · simp only [Act.put, List.setIfInBounds_toArray, List.set_cons_zero, List.set_cons_succ, i64_w, i32_w]
    rfl
  refine pure_ (i := 4) (N := some 7) (v := ?_) (a' := ?_) #[true, true, true, true, true, false, false, false, false, false, false, false, false, false, false, false] rfl rfl (by kernel_rfl) (fun _ _ _ h => h) (Or.inl ⟨by rfl, ?_⟩) ?_ ?_
  rotate_left
  · intro w'
    go_simp
    with_reducible rfl
  rotate_left
  · simp only [Act.put, List.setIfInBounds_toArray, List.set_cons_zero, List.set_cons_succ, i64_w, i32_w]
    rfl
  refine pure_ (i := 5) (N := some 8) (v := ?_) (a' := ?_) #[true, true, true, true, true, true, false, false, false, false, false, false, false, false, false, false] rfl rfl (by kernel_rfl) (fun _ _ _ h => h) (Or.inl ⟨by rfl, ?_⟩) ?_ ?_
  rotate_left
  · intro w'
    go_simp
    with_reducible rfl
  rotate_left
  · simp only [Act.put, List.setIfInBounds_toArray, List.set_cons_zero, List.set_cons_succ, i64_w, i32_w]
    rfl
  refine pure_ (i := 6) (N := some 9) (v := ?_) (a' := ?_) #[true, true, true, true, true, true, true, false, false, false, false, false, false, false, false, false] rfl rfl (by kernel_rfl) (fun _ _ _ h => h) (Or.inl ⟨by rfl, ?_⟩) ?_ ?_
  rotate_left
  · intro w'
    go_simp
    with_reducible rfl
  rotate_left
  · simp only [Act.put, List.setIfInBounds_toArray, List.set_cons_zero, List.set_cons_succ, i64_w, i32_w]
    rfl
  refine pure_ (i := 7) (N := some 10) (v := ?_) (a' := ?_) #[true, true, true, true, true, true, true, true, false, false, false, false, false, false, false, false] rfl rfl (by kernel_rfl) (fun _ _ _ h => h) (Or.inl ⟨by rfl, ?_⟩) ?_ ?_
  rotate_left
  · intro w'
    go_simp
    with_reducible rfl
  rotate_left
  · simp only [Act.put, List.setIfInBounds_toArray, List.set_cons_zero, List.set_cons_succ, i64_w, i32_w]
    rfl
  refine take_ (i := 8) (N := some 11) (v := ?_) (a' := ?_) #[true, true, true, true, true, true, true, true, true, false, false, false, false, false, false, false] rfl rfl (by kernel_rfl) (fun _ _ _ h => h) (Or.inl ⟨by rfl, ?_⟩) hHeld ?_ ?_
  rotate_left
  · intro w' hS_
    go_simp
    with_reducible rfl
  rotate_left
  · simp only [Act.put, List.setIfInBounds_toArray, List.set_cons_zero, List.set_cons_succ, i64_w, i32_w]
    rfl
  refine pure_ (i := 11) (N := some 14) (v := ?_) (a' := ?_) #[true, true, true, true, true, true, true, true, true, false, false, true, false, false, false, false] rfl rfl (by kernel_rfl) (fun _ _ _ h => h) (Or.inl ⟨by rfl, ?_⟩) ?_ ?_
  rotate_left
  · intro w'
    go_simp
    with_reducible rfl
  rotate_left
  · simp only [Act.put, List.setIfInBounds_toArray, List.set_cons_zero, List.set_cons_succ, i64_w, i32_w]
    rfl
  refine take_ (i := 12) (N := some 15) (v := ?_) (a' := ?_) #[true, true, true, true, true, true, true, true, true, false, false, true, true, false, false, false] rfl rfl (by kernel_rfl) (fun _ _ _ h => h) (Or.inl ⟨by rfl, ?_⟩) hHeld ?_ ?_
  rotate_left
  · intro w' hS_
    go_simp
    with_reducible rfl
  rotate_left
  · simp only [Act.put, List.setIfInBounds_toArray, List.set_cons_zero, List.set_cons_succ, i64_w, i32_w]
    rfl
  refine one_ (i := 9) (N := some 12) #[true, true, true, true, true, true, true, true, true, true, false, true, true, false, false, false] rfl rfl (by kernel_rfl) (by decide) (fun K hK => ?_)
  refine goes_ Try.func43 (by kernel_rfl) rfl #[.slice A0 p.length c0] (by rfl) rfl rfl (by (try simp only [List.map_toArray, List.map_cons, List.map_nil]); first | done | rfl) ?_
  refine (basculeref02_Add.calls KK A0 c0 p q _ (by (with_reducible repeat (first | refine Kd.C_alloc ?_ _ | refine Kd.C_drewN ?_ _ | refine Kd.C_drew ?_)); exact HCp.out) hcutl fadd.out).mono ?_
  rintro e w1 ⟨v, rfl, HR, HB⟩; obtain ⟨A1, c1, rfl, hc, HC⟩ := Kd.R_reads HR
  refine ⟨_, rfl, ?_⟩
  have HC0 := Aside0.mk (Kd.C_below (by (with_reducible repeat (first | refine Kd.C_alloc ?_ _ | refine Kd.C_drewN ?_ _ | refine Kd.C_drew ?_)); exact HC0.out) HB); have HB0 := Aside0.mk (below_step (by repeat (first | exact HB0.out | apply below_alloc | apply pw_below_drewN | apply below_drew1 | apply below_drew)) HB); have HC1 := Aside0.mk HC; have hc1 := Aside0.mk hc; clear HR HB HC hc
  refine hK.out _ _ ?_ (fun hHeld => ?_)
  · exact (string_of_reads (P := Try.prog) (c := c0) Try.underlying22 Try.underlying5 Try.underlying9 (Kd.reads_of_C (by (with_reducible repeat (first | refine Kd.C_alloc ?_ _ | refine Kd.C_drewN ?_ _ | refine Kd.C_drew ?_)); exact HC0.out)))
  clear hK K
  refine norm_ (a' := ?_) ?_ ?_
  rotate_left
  · show Act.put _ (some 12) _ = _
    simp only [Act.put, List.setIfInBounds_toArray, List.set_cons_zero, List.set_cons_succ, i64_w, i32_w]
    rfl
  refine more1_ (S' := fun W => Sem.run Try.prog (convert 22 9 (.slice A0 l0.length c0)) W = .ok (.string (strOfNums l0)) W ∧ Sem.run Try.prog (convert 22 9 (.slice A1 q.length c1)) W = .ok (.string (strOfNums q)) W) (fun W h_ => h_.1) ?_ (fun hHeld => ?_)
  · exact ⟨(string_of_reads (P := Try.prog) (c := c0) Try.underlying22 Try.underlying5 Try.underlying9 (Kd.reads_of_C (by (with_reducible repeat (first | refine Kd.C_alloc ?_ _ | refine Kd.C_drewN ?_ _ | refine Kd.C_drew ?_)); exact HC0.out))), (string_of_reads (P := Try.prog) (c := c1) Try.underlying22 Try.underlying5 Try.underlying9 (Kd.reads_of_C (by (with_reducible repeat (first | refine Kd.C_alloc ?_ _ | refine Kd.C_drewN ?_ _ | refine Kd.C_drew ?_)); exact HC1.out)))⟩
  refine take_ (i := 10) (N := some 13) (v := ?_) (a' := ?_) #[true, true, true, true, true, true, true, true, true, true, true, true, true, false, false, false] rfl rfl (by kernel_rfl) (fun _ _ _ h => h) (Or.inl ⟨by rfl, ?_⟩) hHeld ?_ ?_
  rotate_left
  · intro w' hS_
    go_simp
    with_reducible rfl
  rotate_left
  · simp only [Act.put, List.setIfInBounds_toArray, List.set_cons_zero, List.set_cons_succ, i64_w, i32_w]
    rfl
  refine pure_ (i := 13) (N := some 16) (v := ?_) (a' := ?_) #[true, true, true, true, true, true, true, true, true, true, true, true, true, true, false, false] rfl rfl (by kernel_rfl) (fun _ _ _ h => h) (Or.inl ⟨by rfl, ?_⟩) ?_ ?_
  rotate_left
  · intro w'
    go_simp
    with_reducible rfl
  rotate_left
  · simp only [Act.put, List.setIfInBounds_toArray, List.set_cons_zero, List.set_cons_succ, i64_w, i32_w]
    rfl
  refine pure_ (i := 14) (N := some 17) (v := ?_) (a' := ?_) #[true, true, true, true, true, true, true, true, true, true, true, true, true, true, true, false] rfl rfl (by kernel_rfl) (fun _ _ _ h => h) (Or.inl ⟨by rfl, ?_⟩) ?_ ?_
  rotate_left
  · intro w'
    go_simp
    with_reducible rfl
  rotate_left
  · simp only [Act.put, List.setIfInBounds_toArray, List.set_cons_zero, List.set_cons_succ, i64_w, i32_w]
    rfl
  refine pure_ (i := 15) (N := some 2) (v := ?_) (a' := ?_) #[true, true, true, true, true, true, true, true, true, true, true, true, true, true, true, true] rfl rfl (by kernel_rfl) (fun _ _ _ h => h) (Or.inl ⟨by rfl, ?_⟩) ?_ ?_
  rotate_left
  · intro w'
    go_simp
    with_reducible rfl
  rotate_left
  · simp only [Act.put, List.setIfInBounds_toArray, List.set_cons_zero, List.set_cons_succ, i64_w, i32_w]
    rfl
  refine done_ (by kernel_rfl) ?_
  go_wp2
  go_ret
  exact ⟨rfl, (by repeat (first | exact HB0.out | apply below_alloc | apply pw_below_drewN | apply below_drew1 | apply below_drew))⟩
theorem refgood (A0 : Option Addr) (c0 : Nat) (l0 : List Int) (hb : Bytes l0) (hc0 : l0.length ≤ c0) (hl : l0.length ≤ 600) (w : World) (HC0 : Kd.C (Kd.int .u8) w A0 l0.length l0) :
    Calls Try.prog 42 #[.slice A0 l0.length c0] w fun e w' => e = .returned (.bool (decide (2 ≤ l0.length ∧ crcN 65535 l0 = 0))) ∧ Below w.heap.size w w' := by
  by_cases h2 : 2 ≤ l0.length
  · have hbp : Bytes (l0.take (l0.length - 2)) := fun x hx => hb x (List.mem_of_mem_take hx)
    have hlp : (l0.take (l0.length - 2)).length ≤ 600 := by rw [List.length_take]; omega
    have := refgood_two 1000 A0 c0 l0 _ _ w ⟨HC0⟩ hc0 hl (by simp; omega) h2 rfl ⟨refadd_f _ hbp (by omega) 1000 (by omega)⟩
    rw [str_beq (bytes_add _ hbp _ (crcN_lt _ 65535 (by omega) hbp)) hb] at this
    have e : decide (l0.take (l0.length - 2) ++ [((crcN 65535 (l0.take (l0.length - 2)) % 256 : Nat) : Int), ((crcN 65535 (l0.take (l0.length - 2)) / 256 : Nat) : Int)] = l0) = decide (2 ≤ l0.length ∧ crcN 65535 l0 = 0) := by
      rw [decide_eq_decide]
      constructor
      · intro h
        refine ⟨h2, ?_⟩
        rw [← h]
        exact crcN_add _ hbp
      · intro h
        exact (crcN_ends l0 hb h.1 h.2).symm
    rw [e] at this
    exact this
  · rw [show decide (2 ≤ l0.length ∧ crcN 65535 l0 = 0) = false from by simp only [decide_eq_false_iff_not]; omega]
    exact refgood_short A0 _ c0 w (by simp; omega)


end Go.Proofs.Ytabjlanomebonaa.HandGood

/- The walk of MbapFrames. (printed by gen_frames.py) -/
import Derived.Test.YtabjlanomebonaaAwakeB
import Derived.Test.YtabjlanomebonaaMthG
namespace Go.Proofs.Ytabjlanomebonaa.HandFrames
open Go.RowKit Go.Proofs.YtabjlanomebonaaW.PrintWords Go.Proofs.YtabjlanomebonaaW.PrintLast Go.Proofs.YtabjlanomebonaaW.PrintMore Go.Proofs.Ytabjlanomebonaa.Core Go.Proofs.Ytabjlanomebonaa.Ext Go.Proofs.Ytabjlanomebonaa.ExtC Go.Proofs.Ytabjlanomebonaa.PB Go.Proofs.Ytabjlanomebonaa.MthG Go.Proofs.Ytabjlanomebonaa.AwakeB
set_option linter.unusedVariables false
set_option linter.unusedSimpArgs false
theorem wp_copy_lit {P : Program} {ops : Array Oper} {rest : List Oper} {o : Oper} {a : Act} {Q : Exit → Act → World → Prop} {W0 : World} (hgd : o.guard = none) (s x : Operand) (t e : TypeId) (k : IntKind)
    (ho : o.op = .call { callee := .builtin .append, args := #[s, x], argTypes := #[t, t] }) (ht : P.underlying t = some (.slice e)) (hinfo : (P.info? e).map (fun i => (i.zero, i.size, i.bytes)) = some (some (.int k 0), 1, 1))
    (ys : List Int) (A : Option Addr) (c : Nat) (hs : a.eval s = .slice (some ⟨W0.heap.size, 0, none⟩) 0 0) (hx : a.eval x = .slice A ys.length c) (HC : Kd.C (Kd.int k) W0 A ys.length ys) (hl : ys.length ≤ 140737488355328)
    (h : ∀ A' c' w1, Kd.C (Kd.int k) w1 A' ys.length ys → ys.length ≤ c' → Below W0.heap.size W0 w1 → wpList P ops Q rest (a.put o.dst (.slice A' ys.length c')) w1) :
    wpList P ops Q (o :: rest) a (W0.alloc (.cells #[] e)) := by
  have hown := own_lit W0 W0.heap.size e k [] (Nat.le_refl _) (by simp)
  refine print_append_row (w0 := W0) W0.heap.size hgd s x t e k 1 ho ht hinfo (by omega) _ [] ys A ys.length c hs hx hown (ReadsInt.below (Kd.reads_of_C HC) (below_alloc (Below.refl _ _) _)) (below_alloc (Below.refl _ _) _) (by simp) (by simp; omega) ?_
  intro v1 w1 HO HB _ _
  obtain ⟨A1, c1, rfl, hc1, HC1⟩ := Kd.R_reads (Kd.R_of_own (ok := fun _ => True) HO (fun _ _ => trivial))
  exact h A1 c1 w1 HC1 hc1 HB

theorem more_ {P : Program} {ops : Array Oper} {Q : Exit → Act → World → Prop} {md : Region.Mode} {S S' : World → Prop} (hS : ∀ w, S' w → S w) : ∀ (fuel : Nat) (l : Array Bool) (a : Act) (w : World),
    S' w → wpAnyLast P md ops Q S' [] fuel l a w → wpAnyLast P md ops Q S [] fuel l a w
  | 0, _, _, _, _, h => h
  | fuel + 1, l, a, w, hw, h => ⟨h.1, fun i hi => wpOp_mono (fun a' w' hh => ⟨fun hn _ => hS _ (hh.1 hn hw), more_ hS fuel _ a' w' (hh.1 (by simp) hw) hh.2⟩) (h.2 i hi)⟩
theorem more1_ {P : Program} {ops : Array Oper} {Q : Exit → Act → World → Prop} {md : Region.Mode} {S S' : World → Prop} {fuel : Nat} {l : Array Bool} {a : Act} {w : World} (hS : ∀ w, S' w → S w)
    (hw : S' w) (h : S' w → wpAnyLast P md ops Q S' [] fuel l a w) : wpAnyLast P md ops Q S [] fuel l a w := more_ hS fuel l a w hw (h hw)

/-- 'append([]byte{}, x...)': a copy, all that was there stays. -/

theorem C_set37 {W : World} {A : Option Addr} {p : List Int} {g : Nat} {x y z v : Value} (h : Kd.C (Kd.int .u8) W A p.length p) (hg : W.heap[g]? = some (.cells #[x, y, z] 37 (0, 0))) (hz : ∀ n : Int, z ≠ .int .u8 n) : Kd.C (Kd.int .u8) (W.setCell ⟨g, 2, none⟩ v) A p.length p := by
  have hr := Kd.reads_of_C (enc := Value.int .u8) (d := (0 : Int)) (h1 := fun _ => rfl) h
  refine Kd.C_of_reads (enc := Value.int .u8) (d := (0 : Int)) (h1 := fun _ => rfl) (show ReadsInt _ .u8 A _ _ from ⟨hr.1, hr.2.1, fun hp => ?_⟩)
  obtain ⟨ad, e, hc⟩ := hr.2.2 hp
  refine ⟨ad, e, fun j hj => ?_⟩
  have h1 : W.cell? (ad.add j) = some (.int .u8 (p.getD j 0)) := hc j hj
  have hne : (⟨g, 2, none⟩ : Addr) ≠ ad.add j := fun e' => by
    have h2 : W.cell? ⟨g, 2, none⟩ = some z := (blk_cell hg 2).trans rfl
    rw [← e', h2] at h1
    exact hz _ (Option.some.inj h1)
  exact (by first | exact World.cell?_setCell_other W hne | exact World.cell?_setCell_other W _ _ _ hne | exact World.cell?_setCell_other _ _ hne | exact World.cell?_setCell_other W _ hne : (W.setCell ⟨g, 2, none⟩ v).cell? (ad.add j) = W.cell? (ad.add j)).trans h1

theorem mkS {w W : World} {t u : Int} {A A4 : Option Addr} {c c4 : Nat} {p q : List Int} (h1 : W.heap[w.heap.size]? = some (.cells #[.int .i64 t, .int .i64 u, .slice A p.length c] 37 (0, 0))) (h2 : Kd.C (Kd.int .u8) W A4 q.length q) (h3 : Below w.heap.size w W) :
    W.heap[w.heap.size]? = some (.cells #[.int .i64 t, .int .i64 u, .slice A p.length c] 37 (0, 0)) ∧ Kd.C (Kd.int .u8) W A4 q.length q ∧ Below w.heap.size w W ∧ W.cell? ⟨w.heap.size, 0, none⟩ = some (.int .i64 t) ∧ W.cell? ⟨w.heap.size, 1, none⟩ = some (.int .i64 u) ∧ W.cell? ⟨w.heap.size, 2, none⟩ = some (.slice A p.length c) ∧ Sem.run Try.prog (convert 22 9 (.slice A4 q.length c4)) W = .ok (.string (strOfNums q)) W :=
  ⟨h1, h2, h3, (blk_cell h1 0).trans rfl, (blk_cell h1 1).trans rfl, (blk_cell h1 2).trans rfl, string_of_reads (P := Try.prog) (c := c4) Try.underlying22 Try.underlying5 Try.underlying9 (Kd.reads_of_C h2)⟩
set_option maxHeartbeats 8000000 in
set_option maxRecDepth 100000 in
theorem frames_long (t u : Int) (A : Option Addr) (c : Nat) (p : List Int) (w : World) (HV : Aside0 (Kd.C (Kd.int .u8) w A p.length p)) (HC : Aside0 (p.length ≤ c)) (h6 : 600 < p.length) : Calls Try.prog 5 #[.agg #[.int .i64 t, .int .i64 u, .slice A p.length c]] w fun e w' => e = .returned (.bool true) ∧ Below w.heap.size w w' := by
  have h6b : decide (600 < (p.length : Int)) = true := decide_eq_true (by omega)
  have h6n : decide (600 < p.length) = true := decide_eq_true h6
  have hu37 := Try.underlying37
  go_enter Try.func5, Try.ntmps5
  go_wp2
  go_ret
  exact ⟨rfl, below_alloc (Below.refl _ _) _⟩
set_option maxHeartbeats 8000000 in
set_option maxRecDepth 100000 in
theorem frames_no (t u : Int) (A : Option Addr) (c : Nat) (p : List Int) (w : World) (HV : Aside0 (Kd.C (Kd.int .u8) w A p.length p)) (HC : Aside0 (p.length ≤ c)) (h6 : p.length ≤ 600) (hm : ¬ mayA t u p) : Calls Try.prog 5 #[.agg #[.int .i64 t, .int .i64 u, .slice A p.length c]] w fun e w' => e = .returned (.bool true) ∧ Below w.heap.size w w' := by
  have h6b : decide (600 < (p.length : Int)) = false := decide_eq_false (by omega)
  have h6n : decide (600 < p.length) = false := decide_eq_false (by omega)
  have hu37 := Try.underlying37
  have F1 : Aside0 (mbap_Frame.f 2 t u p = some ([], 1)) := ⟨frame_no 1 hm⟩
  have F2 : Aside0 (basculeref06_May.f t u p = some false) := ⟨by rw [may_f, decide_eq_false hm]⟩
  clear hm
  go_enter Try.func5, Try.ntmps5
  go_upto_region 5 with (first | ((with_reducible refine gate_builtin (b := .append) (xs := #[.tmp 11, .tmp 13]) rfl ?_); (refine wp_copy_lit rfl (.tmp 11) (.tmp 13) 22 5 .u8 rfl Try.underlying22 PZ.info5 p A c ?s1 rfl (Kd.C_below HV.out (below_alloc (below_alloc (Below.refl _ _) _) _)) (by omega) ?_; (case s1 => first | rfl | (go_simp; done)); intro A3 c3 w3 HC3_ hc3_ HB3_; have HC3 := Aside0.mk hc3_; have HV3 := Aside0.mk HC3_; have HB3 : Aside0 (Below w.heap.size w w3) := ⟨below_step (below_alloc (below_alloc (Below.refl _ _) _) _) HB3_⟩; have BK1 : Aside0 (w3.heap[w.heap.size]? = some (.cells #[.int .i64 t, .int .i64 u, .slice A p.length c] 37 (0, 0))) := Aside0.mk (blk_below (g := w.heap.size) (blk_alloc (new_blk rfl) _) HB3_); have BK3 : Aside0 (w3.heap[(w.heap.size + 1)]? = some (.cells #[.int .i64 t, .int .i64 u, .slice A p.length c] 37 (0, 0))) := Aside0.mk (blk_below (g := (w.heap.size + 1)) (new_blk (by simp)) HB3_); clear HC3_ hc3_ HB3_; have hca0 : w3.cell? ⟨w.heap.size, 0, none⟩ = some (.int .i64 t) := (blk_cell BK1.out 0).trans rfl; have hfa0 := blk_frozen BK1.out 0; have hca1 : w3.cell? ⟨w.heap.size, 1, none⟩ = some (.int .i64 u) := (blk_cell BK1.out 1).trans rfl; have hfa1 := blk_frozen BK1.out 1; have hca2 : w3.cell? ⟨w.heap.size, 2, none⟩ = some (.slice A p.length c) := (blk_cell BK1.out 2).trans rfl; have hfa2 := blk_frozen BK1.out 2; have hcb0 : w3.cell? ⟨(w.heap.size + 1), 0, none⟩ = some (.int .i64 t) := (blk_cell BK3.out 0).trans rfl; have hfb0 := blk_frozen BK3.out 0; have hcb1 : w3.cell? ⟨(w.heap.size + 1), 1, none⟩ = some (.int .i64 u) := (blk_cell BK3.out 1).trans rfl; have hfb1 := blk_frozen BK3.out 1; have hcb2 : w3.cell? ⟨(w.heap.size + 1), 2, none⟩ = some (.slice A p.length c) := (blk_cell BK3.out 2).trans rfl; have hfb2 := blk_frozen BK3.out 2)))
  have BK1n : Aside0 ((w3.setCell ⟨w.heap.size + 1, 2, none⟩ (.slice A3 p.length c3)).heap[w.heap.size]? = some (.cells #[.int .i64 t, .int .i64 u, .slice A p.length c] 37 (0, 0))) := Aside0.mk (blk_far BK1.out (by simp) _)
  have BK3n : Aside0 ((w3.setCell ⟨w.heap.size + 1, 2, none⟩ (.slice A3 p.length c3)).heap[(w.heap.size + 1)]? = some (.cells #[.int .i64 t, .int .i64 u, .slice A3 p.length c3] 37 (0, 0))) := Aside0.mk (blk_put (cs := #[.int .i64 t, .int .i64 u, .slice A p.length c]) (cs' := #[.int .i64 t, .int .i64 u, .slice A3 p.length c3]) BK3.out 2 _ rfl)
  have HBn : Aside0 (Below w.heap.size w (w3.setCell ⟨w.heap.size + 1, 2, none⟩ (.slice A3 p.length c3))) := ⟨below_set HB3.out (by omega)⟩
  have HV3n : Aside0 (Kd.C (Kd.int .u8) (w3.setCell ⟨w.heap.size + 1, 2, none⟩ (.slice A3 p.length c3)) A3 p.length p) := ⟨C_set37 HV3.out BK3.out (fun n e => by cases e)⟩
  clear BK1 BK3 HB3 HV3 hca0 hfa0 hca1 hfa1 hca2 hfa2 hcb0 hfb0 hcb1 hfb1 hcb2 hfb2
  generalize (w3.setCell ⟨w.heap.size + 1, 2, none⟩ (.slice A3 p.length c3)) = w4 at BK1n BK3n HBn HV3n ⊢
  have hca0 : w4.cell? ⟨w.heap.size, 0, none⟩ = some (.int .i64 t) := (blk_cell BK1n.out 0).trans rfl; have hfa0 := blk_frozen BK1n.out 0; have hca1 : w4.cell? ⟨w.heap.size, 1, none⟩ = some (.int .i64 u) := (blk_cell BK1n.out 1).trans rfl; have hfa1 := blk_frozen BK1n.out 1; have hca2 : w4.cell? ⟨w.heap.size, 2, none⟩ = some (.slice A p.length c) := (blk_cell BK1n.out 2).trans rfl; have hfa2 := blk_frozen BK1n.out 2
  have hcb0 : w4.cell? ⟨(w.heap.size + 1), 0, none⟩ = some (.int .i64 t) := (blk_cell BK3n.out 0).trans rfl; have hfb0 := blk_frozen BK3n.out 0; have hcb1 : w4.cell? ⟨(w.heap.size + 1), 1, none⟩ = some (.int .i64 u) := (blk_cell BK3n.out 1).trans rfl; have hfb1 := blk_frozen BK3n.out 1; have hcb2 : w4.cell? ⟨(w.heap.size + 1), 2, none⟩ = some (.slice A3 p.length c3) := (blk_cell BK3n.out 2).trans rfl; have hfb2 := blk_frozen BK3n.out 2
  have hqq : ((strOfNums p).toList == (strOfNums p).toList) = true := by simp
  go_wp2_with (first | (go_at_call 18; (refine (mbap_Frame.calls 2 t u A3 c3 p [] 1 _ HV3n.out HC3.out F1.out).mono ?_; rintro e w5 ⟨v4, rfl, HR4, HBc⟩; obtain ⟨A4, c4, rfl, hc4, HC4⟩ := Kd.R_reads HR4; have HV4 := Aside0.mk HC4; clear HR4 hc4 HC4; have BK3m : Aside0 (w5.heap[(w.heap.size + 1)]? = some (.cells #[.int .i64 t, .int .i64 u, .slice A3 p.length c3] 37 (0, 0))) := Aside0.mk (blk_below (g := (w.heap.size + 1)) BK3n.out HBc); have hcvBw5 : Sem.run Try.prog (convert 22 9 (.slice A3 p.length c3)) w5 = .ok (.string (strOfNums p)) w5 := string_of_reads (P := Try.prog) (c := c3) Try.underlying22 Try.underlying5 Try.underlying9 (Kd.reads_of_C (Kd.C_below HV3n.out HBc)); have hb2 : w5.cell? ⟨w.heap.size + 1, 2, none⟩ = some (.slice A3 p.length c3) := (blk_cell BK3m.out 2).trans rfl; have hHBc := HBc; have BK1m : Aside0 (w5.heap[w.heap.size]? = some (.cells #[.int .i64 t, .int .i64 u, .slice A p.length c] 37 (0, 0))) := Aside0.mk (blk_below (g := w.heap.size) BK1n.out HBc); have HBm := Aside0.mk (below_step HBn.out HBc); clear BK1n HBn hca0 hfa0 hca1 hfa1 hca2 hfa2; have BK1n := BK1m; have HBn := HBm; clear BK1m HBm; have hca0 : w5.cell? ⟨w.heap.size, 0, none⟩ = some (.int .i64 t) := (blk_cell BK1n.out 0).trans rfl; have hfa0 := blk_frozen BK1n.out 0; have hca1 : w5.cell? ⟨w.heap.size, 1, none⟩ = some (.int .i64 u) := (blk_cell BK1n.out 1).trans rfl; have hfa1 := blk_frozen BK1n.out 1; have hca2 : w5.cell? ⟨w.heap.size, 2, none⟩ = some (.slice A p.length c) := (blk_cell BK1n.out 2).trans rfl; have hfa2 := blk_frozen BK1n.out 2; have hcvAw5 : Sem.run Try.prog (convert 22 9 (.slice A p.length c)) w5 = .ok (.string (strOfNums p)) w5 := string_of_reads (P := Try.prog) (c := c) Try.underlying22 Try.underlying5 Try.underlying9 (Kd.reads_of_C (Kd.C_below HV.out HBn.out)))) | (go_at_call 19; (refine (basculeref06_May.calls t u A c p false _ (Kd.C_below HV.out HBn.out) HC.out F2.out).mono ?_; rintro e w6 ⟨rfl, HBc⟩; have HV4n := Aside0.mk (Kd.C_below HV4.out HBc); have BK1m : Aside0 (w6.heap[w.heap.size]? = some (.cells #[.int .i64 t, .int .i64 u, .slice A p.length c] 37 (0, 0))) := Aside0.mk (blk_below (g := w.heap.size) BK1n.out HBc); have HBm := Aside0.mk (below_step HBn.out HBc); clear BK1n HBn hca0 hfa0 hca1 hfa1 hca2 hfa2; have BK1n := BK1m; have HBn := HBm; clear BK1m HBm; have hca0 : w6.cell? ⟨w.heap.size, 0, none⟩ = some (.int .i64 t) := (blk_cell BK1n.out 0).trans rfl; have hfa0 := blk_frozen BK1n.out 0; have hca1 : w6.cell? ⟨w.heap.size, 1, none⟩ = some (.int .i64 u) := (blk_cell BK1n.out 1).trans rfl; have hfa1 := blk_frozen BK1n.out 1; have hca2 : w6.cell? ⟨w.heap.size, 2, none⟩ = some (.slice A p.length c) := (blk_cell BK1n.out 2).trans rfl; have hfa2 := blk_frozen BK1n.out 2; clear HBc)) | (go_at_call 20; (refine (awake6 _).mono ?_; rintro e w7 ⟨rfl, HBa⟩; have HB7 := Aside0.mk (below_step HBn.out HBa); clear HBa)))
  go_ret
  exact ⟨rfl, HB7.out⟩
set_option maxHeartbeats 8000000 in
set_option maxRecDepth 100000 in
theorem frames_may (t u : Int) (A : Option Addr) (c : Nat) (p : List Int) (w : World) (HV : Aside0 (Kd.C (Kd.int .u8) w A p.length p)) (HC : Aside0 (p.length ≤ c)) (h6 : p.length ≤ 600) (hm : mayA t u p) : Calls Try.prog 5 #[.agg #[.int .i64 t, .int .i64 u, .slice A p.length c]] w fun e w' => e = .returned (.bool true) ∧ Below w.heap.size w w' := by
  have h6b : decide (600 < (p.length : Int)) = false := decide_eq_false (by omega)
  have h6n : decide (600 < p.length) = false := decide_eq_false (by omega)
  have hu37 := Try.underlying37
  have F1 : Aside0 (mbap_Frame.f 2 t u p = some ((frameB t u p), 0)) := ⟨frame_yes 1 hm⟩
  have F2 : Aside0 (basculeref06_May.f t u p = some true) := ⟨by rw [may_f, decide_eq_true hm]⟩
  have F3 : Aside0 (basculeref06_Bytes.f t u p = some (frameB t u p)) := ⟨refbytes_f hm⟩
  have hfl : (frameB t u p).length = 7 + p.length := by simp [frameB]; omega
  generalize frameB t u p = q at F1 F3 hfl
  clear hfl
  clear hm
  go_enter Try.func5, Try.ntmps5
  go_upto_region 5 with (first | ((with_reducible refine gate_builtin (b := .append) (xs := #[.tmp 11, .tmp 13]) rfl ?_); (refine wp_copy_lit rfl (.tmp 11) (.tmp 13) 22 5 .u8 rfl Try.underlying22 PZ.info5 p A c ?s1 rfl (Kd.C_below HV.out (below_alloc (below_alloc (Below.refl _ _) _) _)) (by omega) ?_; (case s1 => first | rfl | (go_simp; done)); intro A3 c3 w3 HC3_ hc3_ HB3_; have HC3 := Aside0.mk hc3_; have HV3 := Aside0.mk HC3_; have HB3 : Aside0 (Below w.heap.size w w3) := ⟨below_step (below_alloc (below_alloc (Below.refl _ _) _) _) HB3_⟩; have BK1 : Aside0 (w3.heap[w.heap.size]? = some (.cells #[.int .i64 t, .int .i64 u, .slice A p.length c] 37 (0, 0))) := Aside0.mk (blk_below (g := w.heap.size) (blk_alloc (new_blk rfl) _) HB3_); have BK3 : Aside0 (w3.heap[(w.heap.size + 1)]? = some (.cells #[.int .i64 t, .int .i64 u, .slice A p.length c] 37 (0, 0))) := Aside0.mk (blk_below (g := (w.heap.size + 1)) (new_blk (by simp)) HB3_); clear HC3_ hc3_ HB3_; have hca0 : w3.cell? ⟨w.heap.size, 0, none⟩ = some (.int .i64 t) := (blk_cell BK1.out 0).trans rfl; have hfa0 := blk_frozen BK1.out 0; have hca1 : w3.cell? ⟨w.heap.size, 1, none⟩ = some (.int .i64 u) := (blk_cell BK1.out 1).trans rfl; have hfa1 := blk_frozen BK1.out 1; have hca2 : w3.cell? ⟨w.heap.size, 2, none⟩ = some (.slice A p.length c) := (blk_cell BK1.out 2).trans rfl; have hfa2 := blk_frozen BK1.out 2; have hcb0 : w3.cell? ⟨(w.heap.size + 1), 0, none⟩ = some (.int .i64 t) := (blk_cell BK3.out 0).trans rfl; have hfb0 := blk_frozen BK3.out 0; have hcb1 : w3.cell? ⟨(w.heap.size + 1), 1, none⟩ = some (.int .i64 u) := (blk_cell BK3.out 1).trans rfl; have hfb1 := blk_frozen BK3.out 1; have hcb2 : w3.cell? ⟨(w.heap.size + 1), 2, none⟩ = some (.slice A p.length c) := (blk_cell BK3.out 2).trans rfl; have hfb2 := blk_frozen BK3.out 2)))
  have BK1n : Aside0 ((w3.setCell ⟨w.heap.size + 1, 2, none⟩ (.slice A3 p.length c3)).heap[w.heap.size]? = some (.cells #[.int .i64 t, .int .i64 u, .slice A p.length c] 37 (0, 0))) := Aside0.mk (blk_far BK1.out (by simp) _)
  have BK3n : Aside0 ((w3.setCell ⟨w.heap.size + 1, 2, none⟩ (.slice A3 p.length c3)).heap[(w.heap.size + 1)]? = some (.cells #[.int .i64 t, .int .i64 u, .slice A3 p.length c3] 37 (0, 0))) := Aside0.mk (blk_put (cs := #[.int .i64 t, .int .i64 u, .slice A p.length c]) (cs' := #[.int .i64 t, .int .i64 u, .slice A3 p.length c3]) BK3.out 2 _ rfl)
  have HBn : Aside0 (Below w.heap.size w (w3.setCell ⟨w.heap.size + 1, 2, none⟩ (.slice A3 p.length c3))) := ⟨below_set HB3.out (by omega)⟩
  have HV3n : Aside0 (Kd.C (Kd.int .u8) (w3.setCell ⟨w.heap.size + 1, 2, none⟩ (.slice A3 p.length c3)) A3 p.length p) := ⟨C_set37 HV3.out BK3.out (fun n e => by cases e)⟩
  clear BK1 BK3 HB3 HV3 hca0 hfa0 hca1 hfa1 hca2 hfa2 hcb0 hfb0 hcb1 hfb1 hcb2 hfb2
  generalize (w3.setCell ⟨w.heap.size + 1, 2, none⟩ (.slice A3 p.length c3)) = w4 at BK1n BK3n HBn HV3n ⊢
  have hca0 : w4.cell? ⟨w.heap.size, 0, none⟩ = some (.int .i64 t) := (blk_cell BK1n.out 0).trans rfl; have hfa0 := blk_frozen BK1n.out 0; have hca1 : w4.cell? ⟨w.heap.size, 1, none⟩ = some (.int .i64 u) := (blk_cell BK1n.out 1).trans rfl; have hfa1 := blk_frozen BK1n.out 1; have hca2 : w4.cell? ⟨w.heap.size, 2, none⟩ = some (.slice A p.length c) := (blk_cell BK1n.out 2).trans rfl; have hfa2 := blk_frozen BK1n.out 2
  have hcb0 : w4.cell? ⟨(w.heap.size + 1), 0, none⟩ = some (.int .i64 t) := (blk_cell BK3n.out 0).trans rfl; have hfb0 := blk_frozen BK3n.out 0; have hcb1 : w4.cell? ⟨(w.heap.size + 1), 1, none⟩ = some (.int .i64 u) := (blk_cell BK3n.out 1).trans rfl; have hfb1 := blk_frozen BK3n.out 1; have hcb2 : w4.cell? ⟨(w.heap.size + 1), 2, none⟩ = some (.slice A3 p.length c3) := (blk_cell BK3n.out 2).trans rfl; have hfb2 := blk_frozen BK3n.out 2
  have hqq : ((strOfNums p).toList == (strOfNums p).toList) = true := by simp
  go_upto_region 10 with (first | (go_at_call 18; (refine (mbap_Frame.calls 2 t u A3 c3 p q 0 _ HV3n.out HC3.out F1.out).mono ?_; rintro e w5 ⟨v4, rfl, HR4, HBc⟩; obtain ⟨A4, c4, rfl, hc4, HC4⟩ := Kd.R_reads HR4; have HV4 := Aside0.mk HC4; clear HR4 hc4 HC4; have BK3m : Aside0 (w5.heap[(w.heap.size + 1)]? = some (.cells #[.int .i64 t, .int .i64 u, .slice A3 p.length c3] 37 (0, 0))) := Aside0.mk (blk_below (g := (w.heap.size + 1)) BK3n.out HBc); have hcvBw5 : Sem.run Try.prog (convert 22 9 (.slice A3 p.length c3)) w5 = .ok (.string (strOfNums p)) w5 := string_of_reads (P := Try.prog) (c := c3) Try.underlying22 Try.underlying5 Try.underlying9 (Kd.reads_of_C (Kd.C_below HV3n.out HBc)); have hb2 : w5.cell? ⟨w.heap.size + 1, 2, none⟩ = some (.slice A3 p.length c3) := (blk_cell BK3m.out 2).trans rfl; have hHBc := HBc; have BK1m : Aside0 (w5.heap[w.heap.size]? = some (.cells #[.int .i64 t, .int .i64 u, .slice A p.length c] 37 (0, 0))) := Aside0.mk (blk_below (g := w.heap.size) BK1n.out HBc); have HBm := Aside0.mk (below_step HBn.out HBc); clear BK1n HBn hca0 hfa0 hca1 hfa1 hca2 hfa2; have BK1n := BK1m; have HBn := HBm; clear BK1m HBm; have hca0 : w5.cell? ⟨w.heap.size, 0, none⟩ = some (.int .i64 t) := (blk_cell BK1n.out 0).trans rfl; have hfa0 := blk_frozen BK1n.out 0; have hca1 : w5.cell? ⟨w.heap.size, 1, none⟩ = some (.int .i64 u) := (blk_cell BK1n.out 1).trans rfl; have hfa1 := blk_frozen BK1n.out 1; have hca2 : w5.cell? ⟨w.heap.size, 2, none⟩ = some (.slice A p.length c) := (blk_cell BK1n.out 2).trans rfl; have hfa2 := blk_frozen BK1n.out 2; have hcvAw5 : Sem.run Try.prog (convert 22 9 (.slice A p.length c)) w5 = .ok (.string (strOfNums p)) w5 := string_of_reads (P := Try.prog) (c := c) Try.underlying22 Try.underlying5 Try.underlying9 (Kd.reads_of_C (Kd.C_below HV.out HBn.out)))) | (go_at_call 19; (refine (basculeref06_May.calls t u A c p true _ (Kd.C_below HV.out HBn.out) HC.out F2.out).mono ?_; rintro e w6 ⟨rfl, HBc⟩; have HV4n := Aside0.mk (Kd.C_below HV4.out HBc); have BK1m : Aside0 (w6.heap[w.heap.size]? = some (.cells #[.int .i64 t, .int .i64 u, .slice A p.length c] 37 (0, 0))) := Aside0.mk (blk_below (g := w.heap.size) BK1n.out HBc); have HBm := Aside0.mk (below_step HBn.out HBc); clear BK1n HBn hca0 hfa0 hca1 hfa1 hca2 hfa2; have BK1n := BK1m; have HBn := HBm; clear BK1m HBm; have hca0 : w6.cell? ⟨w.heap.size, 0, none⟩ = some (.int .i64 t) := (blk_cell BK1n.out 0).trans rfl; have hfa0 := blk_frozen BK1n.out 0; have hca1 : w6.cell? ⟨w.heap.size, 1, none⟩ = some (.int .i64 u) := (blk_cell BK1n.out 1).trans rfl; have hfa1 := blk_frozen BK1n.out 1; have hca2 : w6.cell? ⟨w.heap.size, 2, none⟩ = some (.slice A p.length c) := (blk_cell BK1n.out 2).trans rfl; have hfa2 := blk_frozen BK1n.out 2; clear HBc)))
  have hq9 : ((strOfNums q).toList == (strOfNums q).toList) = true := by simp
  refine start_ (n := 14) (S := fun W => W.heap[w.heap.size]? = some (.cells #[.int .i64 t, .int .i64 u, .slice A p.length c] 37 (0, 0)) ∧ Kd.C (Kd.int .u8) W A4 q.length q ∧ Below w.heap.size w W ∧ W.cell? ⟨w.heap.size, 0, none⟩ = some (.int .i64 t) ∧ W.cell? ⟨w.heap.size, 1, none⟩ = some (.int .i64 u) ∧ W.cell? ⟨w.heap.size, 2, none⟩ = some (.slice A p.length c) ∧ Sem.run Try.prog (convert 22 9 (.slice A4 q.length c4)) W = .ok (.string (strOfNums q)) W) (ds := []) #[false, false, false, false, false, false, false, false, false, false, false, false, false, false] (by kernel_rfl) rfl rfl ?_ (fun hHeld => ?_)
  · first | (exact mkS BK9.out HV9.out HB9.out) | (exact mkS BK8.out HV8.out HB8.out) | (exact mkS BK1n.out (Kd.C_drew HV4n.out) (below_drew1 HBn.out))
  refine one_ (i := 0) (N := some 41) #[true, false, false, false, false, false, false, false, false, false, false, false, false, false] rfl rfl (by kernel_rfl) (by decide) (fun K hK => ?_)
  refine goes_ Try.func20 (by kernel_rfl) rfl #[] (by rfl) rfl rfl (by (try simp only [List.map_toArray, List.map_cons, List.map_nil]); first | done | rfl) ?_
  refine (awake6 _).mono ?_
  rintro e w8 ⟨rfl, HBa⟩
  refine ⟨_, rfl, ?_⟩
  have BK8 := Aside0.mk (blk_below (g := w.heap.size) (hHeld.1) HBa); have HV8 := Aside0.mk (Kd.C_below hHeld.2.1 HBa); have HB8 := Aside0.mk (below_step hHeld.2.2.1 HBa)
  clear HBa
  refine hK.out _ _ ?_ (fun hHeld => ?_)
  · first | (exact mkS BK9.out HV9.out HB9.out) | (exact mkS BK8.out HV8.out HB8.out) | (exact mkS BK1n.out (Kd.C_drew HV4n.out) (below_drew1 HBn.out))
  clear hK K
  refine norm_ (a' := ?_) ?_ ?_
  rotate_left
  · show Act.put _ (some 41) _ = _
    simp only [Act.put, List.setIfInBounds_toArray, List.set_cons_zero, List.set_cons_succ, i64_w, i32_w]
    rfl
  refine pure_ (i := 1) (N := some 42) (v := ?_) (a' := ?_) #[true, true, false, false, false, false, false, false, false, false, false, false, false, false] rfl rfl (by kernel_rfl) (fun _ _ _ h => h) (Or.inl ⟨by rfl, ?_⟩) ?_ ?_
  rotate_left
  · intro w'
    go_simp
    with_reducible rfl
  rotate_left
  · simp only [Act.put, List.setIfInBounds_toArray, List.set_cons_zero, List.set_cons_succ, i64_w, i32_w]
    rfl
  refine pure_ (i := 2) (N := some 43) (v := ?_) (a' := ?_) #[true, true, true, false, false, false, false, false, false, false, false, false, false, false] rfl rfl (by kernel_rfl) (fun _ _ _ h => h) (Or.inl ⟨by rfl, ?_⟩) ?_ ?_
  rotate_left
  · intro w'
    go_simp
    with_reducible rfl
  rotate_left
  · simp only [Act.put, List.setIfInBounds_toArray, List.set_cons_zero, List.set_cons_succ, i64_w, i32_w]
    rfl
  refine pure_ (i := 3) (N := some 44) (v := ?_) (a' := ?_) #[true, true, true, true, false, false, false, false, false, false, false, false, false, false] rfl rfl (by kernel_rfl) (fun _ _ _ h => h) (Or.inl ⟨by rfl, ?_⟩) ?_ ?_
  rotate_left
  · intro w'
    go_simp
    with_reducible rfl
  rotate_left
  · simp only [Act.put, List.setIfInBounds_toArray, List.set_cons_zero, List.set_cons_succ, i64_w, i32_w]
    rfl
  refine pure_ (i := 4) (N := some 45) (v := ?_) (a' := ?_) #[true, true, true, true, true, false, false, false, false, false, false, false, false, false] rfl rfl (by kernel_rfl) (fun _ _ _ h => h) (Or.inl ⟨by rfl, ?_⟩) ?_ ?_
  rotate_left
  · intro w'
    go_simp
    with_reducible rfl
  rotate_left
  · simp only [Act.put, List.setIfInBounds_toArray, List.set_cons_zero, List.set_cons_succ, i64_w, i32_w]
    rfl
  refine pure_ (i := 5) (N := some 46) (v := ?_) (a' := ?_) #[true, true, true, true, true, true, false, false, false, false, false, false, false, false] rfl rfl (by kernel_rfl) (fun _ _ _ h => h) (Or.inl ⟨by rfl, ?_⟩) ?_ ?_
  rotate_left
  · intro w'
    go_simp
    with_reducible rfl
  rotate_left
  · simp only [Act.put, List.setIfInBounds_toArray, List.set_cons_zero, List.set_cons_succ, i64_w, i32_w]
    rfl
  refine pure_ (i := 6) (N := some 47) (v := ?_) (a' := ?_) #[true, true, true, true, true, true, true, false, false, false, false, false, false, false] rfl rfl (by kernel_rfl) (fun _ _ _ h => h) (Or.inl ⟨by rfl, ?_⟩) ?_ ?_
  rotate_left
  · intro w'
    go_simp
    with_reducible rfl
  rotate_left
  · simp only [Act.put, List.setIfInBounds_toArray, List.set_cons_zero, List.set_cons_succ, i64_w, i32_w]
    rfl
  refine take_ (i := 7) (N := some 48) (v := ?_) (a' := ?_) #[true, true, true, true, true, true, true, true, false, false, false, false, false, false] rfl rfl (by kernel_rfl) (fun _ _ _ h => h) (Or.inl ⟨by rfl, ?_⟩) hHeld ?_ ?_
  rotate_left
  · rintro w' ⟨s0, s1, s2, s3, s4, s5, s6⟩
    go_simp
    with_reducible rfl
  rotate_left
  · simp only [Act.put, List.setIfInBounds_toArray, List.set_cons_zero, List.set_cons_succ, i64_w, i32_w]
    rfl
  refine take_ (i := 8) (N := some 49) (v := ?_) (a' := ?_) #[true, true, true, true, true, true, true, true, true, false, false, false, false, false] rfl rfl (by kernel_rfl) (fun _ _ _ h => h) (Or.inl ⟨by rfl, ?_⟩) hHeld ?_ ?_
  rotate_left
  · rintro w' ⟨s0, s1, s2, s3, s4, s5, s6⟩
    go_simp
    with_reducible rfl
  rotate_left
  · simp only [Act.put, List.setIfInBounds_toArray, List.set_cons_zero, List.set_cons_succ, i64_w, i32_w]
    rfl
  refine one_ (i := 9) (N := some 50) #[true, true, true, true, true, true, true, true, true, true, false, false, false, false] rfl rfl (by kernel_rfl) (by decide) (fun K hK => ?_)
  refine goes_ Try.func21 (by kernel_rfl) rfl #[.agg #[.int .i64 t, .int .i64 u, .slice A p.length c]] (by rfl) rfl rfl (by (try simp only [List.map_toArray, List.map_cons, List.map_nil]); first | done | rfl) ?_
  refine (basculeref06_Bytes.calls t u A c p q _ (Kd.C_below HV.out hHeld.2.2.1) HC.out F3.out).mono ?_
  rintro e w9 ⟨v9, rfl, HR9, HBa⟩
  obtain ⟨A9, c9, rfl, hc9, HC9⟩ := Kd.R_reads HR9
  refine ⟨_, rfl, ?_⟩
  have BK9 := Aside0.mk (blk_below (g := w.heap.size) (hHeld.1) HBa); have HV9 := Aside0.mk (Kd.C_below hHeld.2.1 HBa); have HB9 := Aside0.mk (below_step hHeld.2.2.1 HBa); have HVR := Aside0.mk HC9
  clear HBa HR9 hc9 HC9
  refine hK.out _ _ ?_ (fun hHeld => ?_)
  · first | (exact mkS BK9.out HV9.out HB9.out) | (exact mkS BK8.out HV8.out HB8.out) | (exact mkS BK1n.out (Kd.C_drew HV4n.out) (below_drew1 HBn.out))
  clear hK K
  refine norm_ (a' := ?_) ?_ ?_
  rotate_left
  · show Act.put _ (some 50) _ = _
    simp only [Act.put, List.setIfInBounds_toArray, List.set_cons_zero, List.set_cons_succ, i64_w, i32_w]
    rfl
  refine more1_ (S' := fun W => (W.heap[w.heap.size]? = some (.cells #[.int .i64 t, .int .i64 u, .slice A p.length c] 37 (0, 0)) ∧ Kd.C (Kd.int .u8) W A4 q.length q ∧ Below w.heap.size w W ∧ W.cell? ⟨w.heap.size, 0, none⟩ = some (.int .i64 t) ∧ W.cell? ⟨w.heap.size, 1, none⟩ = some (.int .i64 u) ∧ W.cell? ⟨w.heap.size, 2, none⟩ = some (.slice A p.length c) ∧ Sem.run Try.prog (convert 22 9 (.slice A4 q.length c4)) W = .ok (.string (strOfNums q)) W) ∧ Sem.run Try.prog (convert 22 9 (.slice A9 q.length c9)) W = .ok (.string (strOfNums q)) W) (fun W h_ => h_.1) ?_ (fun hHeld => ?_)
  · exact ⟨mkS BK9.out HV9.out HB9.out, string_of_reads (P := Try.prog) (c := c9) Try.underlying22 Try.underlying5 Try.underlying9 (Kd.reads_of_C HVR.out)⟩
  refine take_ (i := 10) (N := some 51) (v := ?_) (a' := ?_) #[true, true, true, true, true, true, true, true, true, true, true, false, false, false] rfl rfl (by kernel_rfl) (fun _ _ _ h => h) (Or.inl ⟨by rfl, ?_⟩) hHeld ?_ ?_
  rotate_left
  · rintro w' ⟨⟨s0, s1, s2, s3, s4, s5, s6⟩, s7⟩
    go_simp
    with_reducible rfl
  rotate_left
  · simp only [Act.put, List.setIfInBounds_toArray, List.set_cons_zero, List.set_cons_succ, i64_w, i32_w]
    rfl
  refine pure_ (i := 11) (N := some 52) (v := ?_) (a' := ?_) #[true, true, true, true, true, true, true, true, true, true, true, true, false, false] rfl rfl (by kernel_rfl) (fun _ _ _ h => h) (Or.inl ⟨by rfl, ?_⟩) ?_ ?_
  rotate_left
  · intro w'
    go_simp
    with_reducible rfl
  rotate_left
  · simp only [Act.put, List.setIfInBounds_toArray, List.set_cons_zero, List.set_cons_succ, i64_w, i32_w]
    rfl
  refine pure_ (i := 12) (N := some 53) (v := ?_) (a' := ?_) #[true, true, true, true, true, true, true, true, true, true, true, true, true, false] rfl rfl (by kernel_rfl) (fun _ _ _ h => h) (Or.inl ⟨by rfl, ?_⟩) ?_ ?_
  rotate_left
  · intro w'
    go_simp
    with_reducible rfl
  rotate_left
  · simp only [Act.put, List.setIfInBounds_toArray, List.set_cons_zero, List.set_cons_succ, i64_w, i32_w]
    rfl
  refine pure_ (i := 13) (N := some 2) (v := ?_) (a' := ?_) #[true, true, true, true, true, true, true, true, true, true, true, true, true, true] rfl rfl (by kernel_rfl) (fun _ _ _ h => h) (Or.inl ⟨by rfl, ?_⟩) ?_ ?_
  rotate_left
  · intro w'
    go_simp
    with_reducible rfl
  rotate_left
  · simp only [Act.put, List.setIfInBounds_toArray, List.set_cons_zero, List.set_cons_succ, i64_w, i32_w]
    rfl
  refine done_ (by kernel_rfl) ?_
  go_wp2
  go_ret
  exact ⟨rfl, HB9.out⟩
theorem frames_walk (t u : Int) (A : Option Addr) (c : Nat) (p : List Int) (w : World) (ht : -9223372036854775808 ≤ t ∧ t ≤ 9223372036854775807) (hu : -9223372036854775808 ≤ u ∧ u ≤ 9223372036854775807) (HV : Aside0 (Kd.C (Kd.int .u8) w A p.length p)) (HC : Aside0 (p.length ≤ c)) (hb : ∀ x ∈ p, 0 ≤ x ∧ x < 256) :
    Calls Try.prog 5 #[.agg #[.int .i64 t, .int .i64 u, .slice A p.length c]] w fun e w' => e = .returned (.bool true) ∧ Below w.heap.size w w' := by
  by_cases h6 : 600 < p.length
  · exact frames_long t u A c p w HV HC h6
  · by_cases hm : mayA t u p
    · exact frames_may t u A c p w HV HC (by omega) hm
    · exact frames_no t u A c p w HV HC (by omega) hm
end Go.Proofs.Ytabjlanomebonaa.HandFrames

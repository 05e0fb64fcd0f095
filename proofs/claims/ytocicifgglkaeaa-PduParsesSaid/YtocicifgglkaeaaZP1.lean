/- The words, contracts and walks that this claim leans on, put together by a program of this session (part 1). -/
import Derived.Test.YtocicifgglkaeaaZP0
import Derived.Test.YtocicifgglkaeaaProg
import Derived.Laws.StructEq
import Derived.Laws.CopyOwn
section
namespace Go.Proofs.YtocicifgglkaeaaW.PrintWords
open Go.RowKit
theorem bl0_ {b : Nat} {w0 W W' : World} (h : Aside0 (Below b w0 W)) (k : Below b w0 W → Below b w0 W' := by intro h_ ; repeat (first | (with_reducible first | exact h_ | apply below_alloc | apply pw_below_drewN | apply below_drew1) | exact h_)) : Below b w0 W' := k h.out 
theorem bl1_ {b : Nat} {w0 W W' : World} {p0 : Prop} (h : Aside0 (Below b w0 W)) (g0 : Aside0 p0) (k : Below b w0 W → p0 → Below b w0 W' := by intro h_ i0_; repeat (first | (with_reducible first | exact h_ | apply below_alloc | apply pw_below_drewN | apply below_drew1 | refine below_set ?_ i0_) | exact h_)) : Below b w0 W' := k h.out g0.out
theorem bl2_ {b : Nat} {w0 W W' : World} {p0 : Prop} {p1 : Prop} (h : Aside0 (Below b w0 W)) (g0 : Aside0 p0) (g1 : Aside0 p1) (k : Below b w0 W → p0 → p1 → Below b w0 W' := by intro h_ i0_ i1_; repeat (first | (with_reducible first | exact h_ | apply below_alloc | apply pw_below_drewN | apply below_drew1 | refine below_set ?_ i0_ | refine below_set ?_ i1_) | exact h_)) : Below b w0 W' := k h.out g0.out g1.out
theorem bl3_ {b : Nat} {w0 W W' : World} {p0 : Prop} {p1 : Prop} {p2 : Prop} (h : Aside0 (Below b w0 W)) (g0 : Aside0 p0) (g1 : Aside0 p1) (g2 : Aside0 p2) (k : Below b w0 W → p0 → p1 → p2 → Below b w0 W' := by intro h_ i0_ i1_ i2_; repeat (first | (with_reducible first | exact h_ | apply below_alloc | apply pw_below_drewN | apply below_drew1 | refine below_set ?_ i0_ | refine below_set ?_ i1_ | refine below_set ?_ i2_) | exact h_)) : Below b w0 W' := k h.out g0.out g1.out g2.out
theorem bl4_ {b : Nat} {w0 W W' : World} {p0 : Prop} {p1 : Prop} {p2 : Prop} {p3 : Prop} (h : Aside0 (Below b w0 W)) (g0 : Aside0 p0) (g1 : Aside0 p1) (g2 : Aside0 p2) (g3 : Aside0 p3) (k : Below b w0 W → p0 → p1 → p2 → p3 → Below b w0 W' := by intro h_ i0_ i1_ i2_ i3_; repeat (first | (with_reducible first | exact h_ | apply below_alloc | apply pw_below_drewN | apply below_drew1 | refine below_set ?_ i0_ | refine below_set ?_ i1_ | refine below_set ?_ i2_ | refine below_set ?_ i3_) | exact h_)) : Below b w0 W' := k h.out g0.out g1.out g2.out g3.out
theorem bl5_ {b : Nat} {w0 W W' : World} {p0 : Prop} {p1 : Prop} {p2 : Prop} {p3 : Prop} {p4 : Prop} (h : Aside0 (Below b w0 W)) (g0 : Aside0 p0) (g1 : Aside0 p1) (g2 : Aside0 p2) (g3 : Aside0 p3) (g4 : Aside0 p4) (k : Below b w0 W → p0 → p1 → p2 → p3 → p4 → Below b w0 W' := by intro h_ i0_ i1_ i2_ i3_ i4_; repeat (first | (with_reducible first | exact h_ | apply below_alloc | apply pw_below_drewN | apply below_drew1 | refine below_set ?_ i0_ | refine below_set ?_ i1_ | refine below_set ?_ i2_ | refine below_set ?_ i3_ | refine below_set ?_ i4_) | exact h_)) : Below b w0 W' := k h.out g0.out g1.out g2.out g3.out g4.out
theorem bk_ {p q : Prop} (h : Aside0 p) (k : p → q := by intro h_; (with_reducible repeat (first | refine blk_drewN ?_ _ | refine blk_drew ?_ | refine blk_alloc ?_ _)); exact h_) : q := k h.out
theorem kr_ {p q : Prop} (h : Aside0 p) (k : p → q := by intro h_; (with_reducible repeat (first | apply Kd.R_alloc | apply Kd.R_drewN | apply Kd.R_drew)); exact h_) : q := k h.out
theorem ar_ {p : Prop} (k : p := by (try simp only [List.map_toArray, List.map_cons, List.map_nil]); first | done | rfl | (simp only [List.length_drop, List.length_take]; rfl)) : p := k
theorem cz1_ {p : Prop} {w : World} {g : Nat} {t : TypeId} {v0 : Value} (h : w.heap[g]? = some (.cells #[v0] t (0, 0))) (k : w.cell? ⟨g, 0, none⟩ = some v0 → w.frozen? ⟨g, 0, none⟩ = false → p) : p := k ((blk_cell h 0).trans rfl) (blk_frozen h 0)
theorem cz2_ {p : Prop} {w : World} {g : Nat} {t : TypeId} {v0 v1 : Value} (h : w.heap[g]? = some (.cells #[v0, v1] t (0, 0))) (k : w.cell? ⟨g, 0, none⟩ = some v0 → w.cell? ⟨g, 1, none⟩ = some v1 → w.frozen? ⟨g, 0, none⟩ = false → w.frozen? ⟨g, 1, none⟩ = false → p) : p := k ((blk_cell h 0).trans rfl) ((blk_cell h 1).trans rfl) (blk_frozen h 0) (blk_frozen h 1)
theorem cz3_ {p : Prop} {w : World} {g : Nat} {t : TypeId} {v0 v1 v2 : Value} (h : w.heap[g]? = some (.cells #[v0, v1, v2] t (0, 0))) (k : w.cell? ⟨g, 0, none⟩ = some v0 → w.cell? ⟨g, 1, none⟩ = some v1 → w.cell? ⟨g, 2, none⟩ = some v2 → w.frozen? ⟨g, 0, none⟩ = false → w.frozen? ⟨g, 1, none⟩ = false → w.frozen? ⟨g, 2, none⟩ = false → p) : p := k ((blk_cell h 0).trans rfl) ((blk_cell h 1).trans rfl) ((blk_cell h 2).trans rfl) (blk_frozen h 0) (blk_frozen h 1) (blk_frozen h 2)
theorem cz4_ {p : Prop} {w : World} {g : Nat} {t : TypeId} {v0 v1 v2 v3 : Value} (h : w.heap[g]? = some (.cells #[v0, v1, v2, v3] t (0, 0))) (k : w.cell? ⟨g, 0, none⟩ = some v0 → w.cell? ⟨g, 1, none⟩ = some v1 → w.cell? ⟨g, 2, none⟩ = some v2 → w.cell? ⟨g, 3, none⟩ = some v3 → w.frozen? ⟨g, 0, none⟩ = false → w.frozen? ⟨g, 1, none⟩ = false → w.frozen? ⟨g, 2, none⟩ = false → w.frozen? ⟨g, 3, none⟩ = false → p) : p := k ((blk_cell h 0).trans rfl) ((blk_cell h 1).trans rfl) ((blk_cell h 2).trans rfl) ((blk_cell h 3).trans rfl) (blk_frozen h 0) (blk_frozen h 1) (blk_frozen h 2) (blk_frozen h 3)
theorem cz5_ {p : Prop} {w : World} {g : Nat} {t : TypeId} {v0 v1 v2 v3 v4 : Value} (h : w.heap[g]? = some (.cells #[v0, v1, v2, v3, v4] t (0, 0))) (k : w.cell? ⟨g, 0, none⟩ = some v0 → w.cell? ⟨g, 1, none⟩ = some v1 → w.cell? ⟨g, 2, none⟩ = some v2 → w.cell? ⟨g, 3, none⟩ = some v3 → w.cell? ⟨g, 4, none⟩ = some v4 → w.frozen? ⟨g, 0, none⟩ = false → w.frozen? ⟨g, 1, none⟩ = false → w.frozen? ⟨g, 2, none⟩ = false → w.frozen? ⟨g, 3, none⟩ = false → w.frozen? ⟨g, 4, none⟩ = false → p) : p := k ((blk_cell h 0).trans rfl) ((blk_cell h 1).trans rfl) ((blk_cell h 2).trans rfl) ((blk_cell h 3).trans rfl) ((blk_cell h 4).trans rfl) (blk_frozen h 0) (blk_frozen h 1) (blk_frozen h 2) (blk_frozen h 3) (blk_frozen h 4)
theorem cz6_ {p : Prop} {w : World} {g : Nat} {t : TypeId} {v0 v1 v2 v3 v4 v5 : Value} (h : w.heap[g]? = some (.cells #[v0, v1, v2, v3, v4, v5] t (0, 0))) (k : w.cell? ⟨g, 0, none⟩ = some v0 → w.cell? ⟨g, 1, none⟩ = some v1 → w.cell? ⟨g, 2, none⟩ = some v2 → w.cell? ⟨g, 3, none⟩ = some v3 → w.cell? ⟨g, 4, none⟩ = some v4 → w.cell? ⟨g, 5, none⟩ = some v5 → w.frozen? ⟨g, 0, none⟩ = false → w.frozen? ⟨g, 1, none⟩ = false → w.frozen? ⟨g, 2, none⟩ = false → w.frozen? ⟨g, 3, none⟩ = false → w.frozen? ⟨g, 4, none⟩ = false → w.frozen? ⟨g, 5, none⟩ = false → p) : p := k ((blk_cell h 0).trans rfl) ((blk_cell h 1).trans rfl) ((blk_cell h 2).trans rfl) ((blk_cell h 3).trans rfl) ((blk_cell h 4).trans rfl) ((blk_cell h 5).trans rfl) (blk_frozen h 0) (blk_frozen h 1) (blk_frozen h 2) (blk_frozen h 3) (blk_frozen h 4) (blk_frozen h 5)
theorem cz7_ {p : Prop} {w : World} {g : Nat} {t : TypeId} {v0 v1 v2 v3 v4 v5 v6 : Value} (h : w.heap[g]? = some (.cells #[v0, v1, v2, v3, v4, v5, v6] t (0, 0))) (k : w.cell? ⟨g, 0, none⟩ = some v0 → w.cell? ⟨g, 1, none⟩ = some v1 → w.cell? ⟨g, 2, none⟩ = some v2 → w.cell? ⟨g, 3, none⟩ = some v3 → w.cell? ⟨g, 4, none⟩ = some v4 → w.cell? ⟨g, 5, none⟩ = some v5 → w.cell? ⟨g, 6, none⟩ = some v6 → w.frozen? ⟨g, 0, none⟩ = false → w.frozen? ⟨g, 1, none⟩ = false → w.frozen? ⟨g, 2, none⟩ = false → w.frozen? ⟨g, 3, none⟩ = false → w.frozen? ⟨g, 4, none⟩ = false → w.frozen? ⟨g, 5, none⟩ = false → w.frozen? ⟨g, 6, none⟩ = false → p) : p := k ((blk_cell h 0).trans rfl) ((blk_cell h 1).trans rfl) ((blk_cell h 2).trans rfl) ((blk_cell h 3).trans rfl) ((blk_cell h 4).trans rfl) ((blk_cell h 5).trans rfl) ((blk_cell h 6).trans rfl) (blk_frozen h 0) (blk_frozen h 1) (blk_frozen h 2) (blk_frozen h 3) (blk_frozen h 4) (blk_frozen h 5) (blk_frozen h 6)
theorem cz8_ {p : Prop} {w : World} {g : Nat} {t : TypeId} {v0 v1 v2 v3 v4 v5 v6 v7 : Value} (h : w.heap[g]? = some (.cells #[v0, v1, v2, v3, v4, v5, v6, v7] t (0, 0))) (k : w.cell? ⟨g, 0, none⟩ = some v0 → w.cell? ⟨g, 1, none⟩ = some v1 → w.cell? ⟨g, 2, none⟩ = some v2 → w.cell? ⟨g, 3, none⟩ = some v3 → w.cell? ⟨g, 4, none⟩ = some v4 → w.cell? ⟨g, 5, none⟩ = some v5 → w.cell? ⟨g, 6, none⟩ = some v6 → w.cell? ⟨g, 7, none⟩ = some v7 → w.frozen? ⟨g, 0, none⟩ = false → w.frozen? ⟨g, 1, none⟩ = false → w.frozen? ⟨g, 2, none⟩ = false → w.frozen? ⟨g, 3, none⟩ = false → w.frozen? ⟨g, 4, none⟩ = false → w.frozen? ⟨g, 5, none⟩ = false → w.frozen? ⟨g, 6, none⟩ = false → w.frozen? ⟨g, 7, none⟩ = false → p) : p := k ((blk_cell h 0).trans rfl) ((blk_cell h 1).trans rfl) ((blk_cell h 2).trans rfl) ((blk_cell h 3).trans rfl) ((blk_cell h 4).trans rfl) ((blk_cell h 5).trans rfl) ((blk_cell h 6).trans rfl) ((blk_cell h 7).trans rfl) (blk_frozen h 0) (blk_frozen h 1) (blk_frozen h 2) (blk_frozen h 3) (blk_frozen h 4) (blk_frozen h 5) (blk_frozen h 6) (blk_frozen h 7)
theorem bx_ {P : Program} {ops : Array Oper} {rest : List Oper} {o : Oper} {a : Act} {Q : Exit → Act → World → Prop} {W : World} {N : Tmp} {cs : Array Value} {t : TypeId} (h : ∀ g, g = W.heap.size → ∀ w1, w1.heap[g]? = some (.cells cs t (0, 0)) → Below W.heap.size W w1 → wpList P ops Q rest (a.put o.dst (.pointer (some ⟨g, 0, none⟩))) w1) (hgd : o.guard = none := by rfl) (hd : o.dst = some N := by rfl) (hrun : (execOp a.eval o).run P W = .ok (.value (.pointer (some ⟨W.heap.size, 0, none⟩))) (W.alloc (.cells cs t (0, 0))) := by first | (go_simp; done) | (go_simp; rfl)) : wpList P ops Q (o :: rest) a W := box_event hgd hd hrun h
theorem sc_ {p q : Prop} (h : p) (k : p → q := by intro h_; repeat (first | exact h_ | (with_reducible refine Kd.C_alloc ?_ _) | (with_reducible refine Kd.C_drewN ?_ _) | (with_reducible refine Kd.C_drew ?_))) : q := k h
theorem er_ {p : Prop} (k : p := by first | rfl | (simp [errW_none, errW_some] <;> rfl) | (simp [*, errW_none, errW_some] <;> rfl)) : p := k
end Go.Proofs.YtocicifgglkaeaaW.PrintWords
end

section
namespace Go.Proofs.Ytocicifgglkaeaa.PPduSizes
open Go.RowKit Go.Proofs.YtocicifgglkaeaaW.PrintWords Go.Proofs.YtocicifgglkaeaaW.PrintLast Go.Proofs.YtocicifgglkaeaaW.PrintMore
attribute [local go_sem] max2_int min2_int max_two min_two max_three min_three max_four min_four   
set_option linter.unusedVariables false
set_option linter.unusedSimpArgs false
def errW : Option Int → Value
 | none => .nilIface
 | some c => .iface 0 (.int .i64 c)
theorem errW_none : errW none = .nilIface := rfl
theorem errW_some (c : Int) : errW (some c) = .iface 0 (.int .i64 c) := rfl
theorem info3 : (Try.prog.info? 3).map (fun i => (i.zero, i.size, i.bytes)) = some (some (.int .i64 0), 1, 8) := by kernel_rfl
theorem info5 : (Try.prog.info? 5).map (fun i => (i.zero, i.size, i.bytes)) = some (some (.int .u8 0), 1, 1) := by kernel_rfl
end Go.Proofs.Ytocicifgglkaeaa.PPduSizes
end

section
namespace Go.Proofs.Ytocicifgglkaeaa.Ext
open Go.RowKit Go.Proofs.YtocicifgglkaeaaW.PrintWords Go.Proofs.YtocicifgglkaeaaW.PrintLast Go.Proofs.YtocicifgglkaeaaW.PrintMore
set_option linter.unusedVariables false
set_option linter.unusedSimpArgs false
theorem info5 : (Try.prog.info? 5).map (fun i => (i.zero, i.size, i.bytes)) = some (some (.int .u8 0), 1, 1) := by kernel_rfl
theorem own_copied {W : World} {base g n cap : Nat} {e : TypeId} {k : IntKind} {xs : List Int} {cur : List Value} (hg : W.heap[g]? = some (.cells cur.toArray e (0, 0))) (hb : base ≤ g) (hl : xs.length = n) (hc : cur.length = cap) (hn : n ≤ cap) (hm : cap ≤ 9223372036854775807)
 (ht : cur.take n = nums k xs) : W.ownsRow base e 1 (.slice (some ⟨g, 0, none⟩) n cap) n (nums k xs) :=
 ⟨by simp [nums, hl], .inr ⟨g, cap, cur.toArray, rfl, hb, hg, hn, by simpa [maxLen] using hm, by simpa using hc, by simpa using ht⟩⟩
theorem wp_copy_row {P : Program} {w : World} {ops : Array Oper} {rest : List Oper} {o : Oper} {a : Act} {Q : Exit → Act → World → Prop} (hgd : o.guard = none) (d s : Operand) (dT sT : TypeId)
 (ho : o.op = .call { callee := .builtin .copy, args := #[d, s], argTypes := #[dT, sT] }) (e : TypeId) (hu : P.underlying dT = some (.slice e)) (hsz : (P.info? e).map (·.size) = some 1) (k : IntKind)
 (g : Nat) (A : Option Addr) (dCap sCap : Nat) (xs : List Int) (cur : List Value) (hd : a.eval d = .slice (some ⟨g, 0, none⟩) xs.length dCap) (hs : a.eval s = .slice A xs.length sCap)
 (hg : w.heap[g]? = some (.cells cur.toArray e (0, 0))) (hr : ReadsInt w k A xs.length xs) (hfit : xs.length ≤ cur.length)
 (w0 : World) (hb : Below w0.heap.size w0 w) (hBg : w0.heap.size ≤ g)
 (h : ∀ w', Aside0 (w'.heap[g]? = some (.cells (nums k xs ++ cur.drop xs.length).toArray e (0, 0))) → Aside0 (Below w0.heap.size w0 w') → wpList P ops Q rest (a.put o.dst (goInt xs.length)) w') :
 wpList P ops Q (o :: rest) a w := by
 refine wpList_copy_splice hgd d s dT sT ho e hu hsz (some ⟨g, 0, none⟩) A xs.length dCap xs.length sCap hd hs g 0 cur e hg (nums k xs) (by simp [nums]) (fun hp => ⟨rfl, ?_⟩) (by simpa [nums] using hfit)
  (by intro v hv; simp [nums] at hv; obtain ⟨x, _, rfl⟩ := hv; rfl) w0.heap.size w0 hb hBg (fun w' h1 h2 => ?_)
 ·have hp' : 0 < xs.length := by simpa [nums] using hp
  obtain ⟨ad, rfl, _⟩ := ReadsInt.at_ hr 0 (by omega) (by omega)
  refine ⟨ad, rfl, fun j v hj => ?_⟩
  have hlt : j < xs.length := by have := (List.getElem?_eq_some_iff.1 hj).1; simpa [nums] using this
  obtain ⟨ad', e', hc⟩ := ReadsInt.at_ hr (j : Int) (by omega) (by omega)
  cases e'
  rw [Int.toNat_natCast] at hc
  rw [hc]
  simp [nums, List.getElem?_map, List.getElem?_eq_getElem hlt] at hj
  rw [← hj]
  simp [rd, List.getElem?_eq_getElem hlt]
 ·have h1' : w'.heap[g]? = some (.cells (splice cur 0 (nums k xs)).toArray e (0, 0)) := h1
  have e1 : splice cur 0 (nums k xs) = nums k xs ++ cur.drop xs.length := by simp [splice, nums]
  rw [e1] at h1'
  have hl : (nums k xs).length = xs.length := by simp [nums]
  rw [hl]
  exact h w' ⟨h1'⟩ ⟨h2⟩
def wire_behind.f (l0 : List Int) (a1 : Int) : Option (List Int) := if 0 ≤ a1 ∧ (l0.length : Int) + a1 ≤ 140737488355328 then some l0 else none
set_option maxHeartbeats 8000000 in
set_option maxRecDepth 1000000 in
theorem wire_behind.calls (A0 : Option Addr) (c0 : Nat) (l0 : List Int) (a1 : Int) (r : List Int) (w : World) (hr0 : Kd.C (Kd.int .u8) w A0 l0.length l0) (hc0 : l0.length ≤ c0) (h : wire_behind.f l0 a1 = some r) :
 Calls Try.prog 74 #[.slice A0 l0.length c0, .int .i64 a1] w fun e w' => ∃ v0_ : Value, e = .returned (v0_) ∧ Kd.R (Kd.int .u8) 5 w' w.heap.size (fun _ => True) v0_ r ∧ Below w.heap.size w w' := by
 unfold wire_behind.f at h
 by_cases hc : 0 ≤ a1 ∧ (l0.length : Int) + a1 ≤ 140737488355328
 ·rw [if_pos hc] at h
  obtain ⟨h0, h1⟩ := hc
  obtain rfl := Option.some.inj h
  obtain ⟨m, rfl⟩ := Int.eq_ofNat_of_zero_le h0
  obtain ⟨i0, hi, hz0, hz1, hz2⟩ := info_parts info5
  have hmk := fun W : World => run_make (P := Try.prog) W 58 5 i0 (.int .u8 0) Try.underlying58 hi hz0 .i64 .i64 (l0.length : Int) ((l0.length : Int) + (m : Int)) (by omega) (by omega) (by rw [hz2]; omega) (by omega)
  simp only [hz1, Nat.mul_one, Int.toNat_natCast] at hmk
  rw [show ((l0.length : Int) + (m : Int)).toNat = l0.length + m from by omega] at hmk
  go_enter Try.func74, Try.ntmps74
  have hR : Aside0 (ReadsInt w .u8 A0 l0.length l0) := ⟨Kd.reads_of_C hr0⟩
  clear hr0
  go_wp2_with ((with_reducible refine gate_builtin (b := .copy) (xs := #[.tmp 13, .tmp 14]) rfl ?_); (refine wp_copy_row rfl (.tmp 13) (.tmp 14) 58 58 rfl 5 Try.underlying58 (by kernel_rfl) .u8 w.heap.size A0 _ c0 l0 (madeCells #[Value.int IntKind.u8 0] (l0.length + m)).toList rfl rfl ?c1 ?c2 ?c3 w ?c4 (Nat.le_refl _) ?_; (case c1 => exact heap_alloc_new w _); (case c2 => exact hR.out.below (below_alloc (Below.refl _ _) _)); (case c3 => simp [size_madeCells]); (case c4 => exact below_alloc (Below.refl _ _) _); intro w2 HG2 HB2))
  go_ret
  refine ⟨_, rfl, Kd.R_of_own ?_ (fun _ _ => trivial), HB2.out⟩
  refine own_copied HG2.out (Nat.le_refl _) rfl ?_ (by omega) (by omega) (by simp [nums])
  simp [nums, size_madeCells]
 ·rw [if_neg hc] at h
  cases h
end Go.Proofs.Ytocicifgglkaeaa.Ext
end

section
namespace Go.Proofs.Ytocicifgglkaeaa.PP
open Go.RowKit Go.Proofs.YtocicifgglkaeaaW.PrintWords Go.Proofs.YtocicifgglkaeaaW.PrintLast Go.Proofs.YtocicifgglkaeaaW.PrintMore
attribute [local go_sem] max2_int min2_int max_two min_two max_three min_three max_four min_four   
set_option linter.unusedVariables false
set_option linter.unusedSimpArgs false
open Go.Proofs.Ytocicifgglkaeaa.Ext
def errW : Option Int → Value
 | none => .nilIface
 | some c => .iface 0 (.int .i64 c)
theorem errW_none : errW none = .nilIface := rfl
theorem errW_some (c : Int) : errW (some c) = .iface 0 (.int .i64 c) := rfl
theorem info5 : (Try.prog.info? 5).map (fun i => (i.zero, i.size, i.bytes)) = some (some (.int .u8 0), 1, 1) := by kernel_rfl
end Go.Proofs.Ytocicifgglkaeaa.PP
end

section
namespace Go.Proofs.Ytocicifgglkaeaa.PP
open Go.RowKit Go.Proofs.YtocicifgglkaeaaW.PrintWords Go.Proofs.YtocicifgglkaeaaW.PrintLast Go.Proofs.YtocicifgglkaeaaW.PrintMore
attribute [local go_sem] max2_int min2_int max_two min_two max_three min_three max_four min_four   
set_option linter.unusedVariables false
set_option linter.unusedSimpArgs false
open Go.Proofs.Ytocicifgglkaeaa.Ext
def wire_Put.f (l0 : List Int) (a1 : Int) : Option (List Int × Int) := if a1 < 0 then (some (([] : List Int), 1)) else (if a1 > 65535 then (some (([] : List Int), 1)) else ((wire_behind.f l0 2).bind fun t101 => ((some (([(a1 / 256) % 256, (a1) % 256] : List Int) : List Int)).bind fun y104 => (if t101.length + y104.length < 140737488355328 then (some ((t101 ++ y104), 0)) else (none)))))
set_option maxHeartbeats 8000000 in
set_option maxRecDepth 100000 in
theorem wire_Put.calls (A0 : Option Addr) (c0 : Nat) (l0 : List Int) (a1 : Int) (r1 : List Int) (r2 : Int) (w : World) (hr0 : Kd.C (Kd.int .u8) w A0 l0.length l0) (hc0 : l0.length ≤ c0) (h : wire_Put.f l0 a1 = some (r1, r2)) :
 Calls Try.prog 69 #[.slice A0 l0.length c0, .int .i64 a1] w fun e w' => ∃ v0_ : Value, e = .returned (.tuple #[v0_, .int .i64 r2]) ∧ Kd.R (Kd.int .u8) 5 w' w.heap.size (fun _ => True) v0_ r1 ∧ Below w.heap.size w w' := by
 have HR0 := Aside0.mk hr0
 have HC0 := Aside0.mk hc0
 clear hr0 hc0
 have HB := Aside0.mk (Below.refl w.heap.size w)
 have H : (if a1 < 0 then (some (([] : List Int), 1)) else (if a1 > 65535 then (some (([] : List Int), 1)) else ((wire_behind.f l0 2).bind fun t101 => ((some (([(a1 / 256) % 256, (a1) % 256] : List Int) : List Int)).bind fun y104 => (if t101.length + y104.length < 140737488355328 then (some ((t101 ++ y104), 0)) else (none)))))) = some (r1, r2) := h
 clear h
 by_cases c3 : a1 < 0
 ·rw [if_pos c3] at H
  have c3b0 : decide (a1 < 0) = true := decide_eq_true c3
  clear c3
  simp only [Option.some.injEq, Prod.mk.injEq] at H
  obtain ⟨rfl, rfl⟩ := H
  go_enter Try.func69, Try.ntmps69
  go_wp2
  go_ret2
  exact ⟨_, er_, by first | exact Kd.R_nil _ _ _ _ _ | exact Kd.N_nil _ _ _ _ _ | exact Kd.V_nil _ _ _ _ _ | exact Kd.Q_nil _ _ _ _ _ | exact Kd.S_nil _ _ _ _ _, bl0_ HB⟩
 ·rw [if_neg c3] at H
  have c3b0 : decide (a1 < 0) = false := decide_eq_false c3
  clear c3
  by_cases c4 : a1 > 65535
  ·rw [if_pos c4] at H
   have c4b0 : decide (65535 < a1) = true := decide_eq_true c4
   clear c4
   simp only [Option.some.injEq, Prod.mk.injEq] at H
   obtain ⟨rfl, rfl⟩ := H
   go_enter Try.func69, Try.ntmps69
   go_wp2
   go_ret2
   exact ⟨_, er_, by first | exact Kd.R_nil _ _ _ _ _ | exact Kd.N_nil _ _ _ _ _ | exact Kd.V_nil _ _ _ _ _ | exact Kd.Q_nil _ _ _ _ _ | exact Kd.S_nil _ _ _ _ _, bl0_ HB⟩
  ·rw [if_neg c4] at H
   have c4b0 : decide (65535 < a1) = false := decide_eq_false c4
   clear c4
   replace H := Option.bind_eq_some_iff.mp H
   obtain ⟨t101, A50, H⟩ := H
   replace H : ((some (([(a1 / 256) % 256, (a1) % 256] : List Int) : List Int)).bind fun y104 => (if t101.length + y104.length < 140737488355328 then (some ((t101 ++ y104), 0)) else (none))) = some (r1, r2) := H
   have A5 := Aside0.mk A50
   clear A50
   obtain ⟨y104, hy104⟩ : ∃ y_ : List Int, y_ = (([(a1 / 256) % 256, (a1) % 256] : List Int)) := ⟨_, rfl⟩
   replace H : (if t101.length + y104.length < 140737488355328 then (some ((t101 ++ y104), 0)) else (none)) = some (r1, r2) := by first | (rw [hy104]; with_reducible exact H) | (have H2_ := (Option.bind_some _ _).symm.trans H; rw [hy104]; with_reducible exact H2_) | (have H2_ := (Option.bind_some _ _).symm.trans H; with_reducible exact H2_) | with_reducible exact H | (rw [hy104]; exact H) | exact H
   have Ny104 := Aside0.mk hy104
   clear hy104
   by_cases c6 : t101.length + y104.length < 140737488355328
   ·rw [if_pos c6] at H
    have LMc6 := Aside0.mk c6
    clear c6
    obtain ⟨y107, hy107⟩ : ∃ y_ : List Int, y_ = (t101 ++ y104) := ⟨_, rfl⟩
    replace H : (some (y107, 0)) = some (r1, r2) := by first | (rw [hy107]; with_reducible exact H) | (have H2_ := (Option.bind_some _ _).symm.trans H; rw [hy107]; with_reducible exact H2_) | (have H2_ := (Option.bind_some _ _).symm.trans H; with_reducible exact H2_) | with_reducible exact H | (rw [hy107]; exact H) | exact H
    have Ny107 := Aside0.mk hy107
    clear hy107
    simp only [Option.some.injEq, Prod.mk.injEq] at H
    obtain ⟨rfl, rfl⟩ := H
    go_enter Try.func69, Try.ntmps69
    go_wp2_with (first | ((with_reducible refine gate_callee (f := 74) rfl ?_); refine goesL_ (some 13) rfl rfl Try.func74 (by kernel_rfl) rfl #[.slice A0 l0.length c0, .int .i64 2] rfl ar_ ?_; (with_reducible refine (wire_behind.calls _ _ l0 2 t101 _ ?side1 ?side2 A5.out).mono ?_); (case side1 => repeat (first | exact HR0.out | (with_reducible refine Kd.C_alloc ?_ _) | (with_reducible refine Kd.C_drewN ?_ _) | (with_reducible refine Kd.C_drew ?_))); (case side2 => exact HC0.out); rintro e w7 ⟨v102, rfl, ho0, hb⟩; refine ⟨_, rfl, ?_⟩; have n0_ := Aside0.mk (Kd.R_lower ho0 (below_size (bl0_ HB))); have n1_ := Aside0.mk (below_step (bl0_ HB) hb); clear HB; have HO103 := n0_; have HB := n1_; clear n0_ n1_; (try clear hb); (try clear hb2); (try clear hk); (try clear hi); (try clear ho0)) | ((with_reducible refine gate_dst (N := 19) rfl ?_); refine Kd.R_lit (Kd.int .u8) _ 5 ?hg (N := 19) ?hd (xs := ([(a1 / 256) % 256, (a1) % 256] : List Int)) (inner := [.int .u8 ((a1 / 256) % 256), .int .u8 ((a1) % 256)]) (ok := fun _ => True) (okp := fun _ => True) ?hr ?hp (fun _ hk => hk) trivial (Below.refl _ _) (Nat.le_refl _) (by simp) ?_; (case hd => rfl); (case hg => rfl); (case hr => first | (go_simp; done) | (go_simp; rfl)); (case hp => exact (Reps.one (show Kd.M (Kd.int .u8) _ _ _ ((a1 / 256) % 256) [.int .u8 ((a1 / 256) % 256)] from rfl) (Reps.one (show Kd.M (Kd.int .u8) _ _ _ ((a1) % 256) [.int .u8 ((a1) % 256)] from rfl) (Reps.none _ _)))); intro v105 w8 ho9 hb hg_ hnew_; clear hg_ hnew_; (first | rw [← Ny104.out] at ho9 | (simp only [Int.reduceToNat] at ho9; rw [← Ny104.out] at ho9)); have n0_ := Aside0.mk (Kd.R_elder' (kr_ HO103) (Kd.R_base ho9) hb); have n1_ := Aside0.mk (Kd.R_lower (Kd.R_new' ho9 (Kd.R_lt (kr_ HO103))) (below_size (bl0_ HB))); have n2_ := Aside0.mk (below_step (bl0_ HB) hb); clear HO103; clear HB; have HO103 := n0_; have HO106 := n1_; have HB := n2_; clear n0_ n1_ n2_; clear hb ho9; obtain ⟨Ao11, co11, eo11⟩ := Kd.R_slice HO106.out; subst eo11) | ((with_reducible refine gate_builtin (b := .append) (xs := #[.tmp 13, .tmp 19]) rfl ?_); at_builtin; refine Kd.R_append_rows (Kd.int .u8) (w0 := w) w.heap.size rfl (.tmp 13) (.tmp 19) 58 5 (.int .u8 0) 1 rfl Try.underlying58 info5 rfl (by decide) (by omega) v102 t101 y104 _ _ _ (fun k_ => some k_ ≠ (.slice Ao11 y104.length co11 : Value).ownBlock) (fun _ => False) rfl rfl ?aO ?aR (fun _ _ h => h) (fun _ h => h.elim) ?aF ?aB ?aS ?aL ?_; (case aR => exact sc_ (Kd.R_reads' HO106.out).2.2); (case aB => exact (bl0_ HB)); (case aF => exact (fun k_ hk => Kd.fresh' (Kd.R_lt (kr_ HO106)) k_ hk)); (case aO => exact (by (with_reducible repeat (first | apply Kd.R_alloc | apply Kd.R_drewN | apply Kd.R_drew)); exact Kd.R_mono HO103.out (fun _ hk => hk.2))); (case aS => exact (below_size (bl0_ HB))); (case aL => have := LMc6.out; omega); intro v108 w10 ho hb hg hat; rw [← Ny107.out] at ho; have n0_ := Aside0.mk (Kd.R_after (ok := (fun _ => True)) (kr_ HO106) hg hat); have n1_ := Aside0.mk (hb); have n2_ := Aside0.mk (ho); clear HO106; clear HB; clear HO103; have HO106 := n0_; have HB := n1_; have HO109 := n2_; clear n0_ n1_ n2_; clear ho hb hg hat))
    go_ret2
    exact ⟨_, er_, by (with_reducible repeat (first | apply Kd.R_alloc | apply Kd.R_drewN | apply Kd.R_drew)); exact Kd.R_mono HO109.out (fun _ hk => trivial), bl0_ HB⟩
   ·rw [if_neg c6] at H
    exact absurd H (by simp)
def wire_Pack.l0 : Nat → List Int → List Int → Int → Int → Option (List Int × Int)
 | 0, _, _, _, _ => none
 | k + 1, x4, x12, x13, x14 => if x14 < x13 then (if 0 ≤ x14 then (if x14 < (x12.length : Int) then (if (rd x12 x14) = 0 then (wire_Pack.l0 k x4 x12 x13 (wrap64 (x14 + 1))) else (if (rd x12 x14) = 1 then (if 0 ≤ (wrap64 (Int.tdiv x14 8)) then (if (wrap64 (Int.tdiv x14 8)) < (x4.length : Int) then (if 0 ≤ (Int.tmod x14 8) then (wire_Pack.l0 k (x4.set ((wrap64 (Int.tdiv x14 8)) : Int).toNat (Go.bits .or .u8 (rd x4 (wrap64 (Int.tdiv x14 8))) (shl .u8 1 (Int.tmod x14 8)))) x12 x13 (wrap64 (x14 + 1))) else (none)) else (none)) else (none)) else (some (([] : List Int), 1)))) else (none)) else (none)) else (some (x4, 0))
def wire_Pack.f (k : Nat) (l0 : List Int) : Option (List Int × Int) := if 0 ≤ (wrap64 (Int.tdiv (wrap64 ((l0.length : Int) + 7)) 8)) then (if (wrap64 (Int.tdiv (wrap64 ((l0.length : Int) + 7)) 8) : Int).toNat ≤ 281474976710656 then (wire_Pack.l0 k (List.replicate (wrap64 (Int.tdiv (wrap64 ((l0.length : Int) + 7)) 8) : Int).toNat 0) l0 (l0.length : Int) 0) else (none)) else (none)
theorem wire_Pack.mono_l : ∀ k, (∀ y0 y1 y2 y3, LeO (wire_Pack.l0 k y0 y1 y2 y3) (wire_Pack.l0 (k + 1) y0 y1 y2 y3))
 | 0 => fun _ _ _ _ r h => by simp [wire_Pack.l0] at h
 | k + 1 => by
  have ih0 := wire_Pack.mono_l k
  ·intro y0 y1 y2 y3
   unfold wire_Pack.l0
   repeat' first
   | (with_reducible exact ih0 _ _ _ _)
   | (with_reducible exact LeO.refl _)
   | (with_reducible exact LeO.none _)
   | (with_reducible refine LeO.ite ?_ ?_)
   | (with_reducible refine LeO.bind ?_ (fun _ => ?_))
   | exact ih0 _ _ _ _
   | exact LeO.none _
   | refine LeO.ite ?_ ?_
   | refine LeO.bind ?_ (fun _ => ?_)
theorem wire_Pack.mono : ∀ a0 k, LeO (wire_Pack.f k a0) (wire_Pack.f (k + 1) a0) := by
 intro a0 k
 have ih0 := wire_Pack.mono_l k
 unfold wire_Pack.f
 repeat' first
  | (with_reducible exact ih0 _ _ _ _)
  | (with_reducible exact LeO.refl _)
  | (with_reducible exact LeO.none _)
  | (with_reducible refine LeO.ite ?_ ?_)
  | (with_reducible refine LeO.bind ?_ (fun _ => ?_))
  | exact ih0 _ _ _ _
  | exact LeO.none _
  | refine LeO.ite ?_ ?_
  | refine LeO.bind ?_ (fun _ => ?_)
def wire_Pack.T9 : Bool × List (List Nat × List Nat) := (true, [([], []), ([], []), ([1], [1]), ([0, 2], [0, 2]), ([3], [3]), ([], []), ([5], [5]), ([6], [6]), ([4, 7], [4, 7]), ([0, 2, 0, 1, 2, 3, 4, 5, 6, 7, 8], [0, 2]), ([9, 8, 0, 1, 2, 3, 4, 5, 6, 7, 8], [8, 9])])
def wire_Pack.B9 : List Nat := [0, 0, 2, 7, 15, 0, 32, 96, 255, 511, 1023]
theorem wire_Pack.tab9 : rtab .any (opsOf Try.f70 9) = wire_Pack.T9 := by kernel_rfl
theorem wire_Pack.bits9 : waitsOk wire_Pack.T9.2 wire_Pack.B9 = true := by kernel_rfl
set_option maxHeartbeats 8000000 in
set_option maxRecDepth 100000 in
theorem wire_Pack.calls (k : Nat) (A0 : Option Addr) (c0 : Nat) (l0 : List Int) (r1 : List Int) (r2 : Int) (w : World) (hr0 : Kd.C (Kd.int .i64) w A0 l0.length l0) (hc0 : l0.length ≤ c0) (h : wire_Pack.f k l0 = some (r1, r2)) :
 Calls Try.prog 70 #[.slice A0 l0.length c0] w fun e w' => ∃ v0_ : Value, e = .returned (.tuple #[v0_, .int .i64 r2]) ∧ Kd.R (Kd.int .u8) 5 w' w.heap.size (fun _ => True) v0_ r1 ∧ Below w.heap.size w w' := by
 have HR0 := Aside0.mk hr0
 have HC0 := Aside0.mk hc0
 clear hr0 hc0
 have HB := Aside0.mk (Below.refl w.heap.size w)
 have H : (if 0 ≤ (wrap64 (Int.tdiv (wrap64 ((l0.length : Int) + 7)) 8)) then (if (wrap64 (Int.tdiv (wrap64 ((l0.length : Int) + 7)) 8) : Int).toNat ≤ 281474976710656 then (wire_Pack.l0 k (List.replicate (wrap64 (Int.tdiv (wrap64 ((l0.length : Int) + 7)) 8) : Int).toNat 0) l0 (l0.length : Int) 0) else (none)) else (none)) = some (r1, r2) := h
 clear h
 obtain ⟨ji2, hji2⟩ : ∃ j_ : Int, (wrap64 (Int.tdiv (wrap64 ((l0.length : Int) + 7)) 8)) = j_ := ⟨_, rfl⟩
 replace H : (if 0 ≤ (ji2) then (if (ji2 : Int).toNat ≤ 281474976710656 then (wire_Pack.l0 k (List.replicate (ji2 : Int).toNat 0) l0 (l0.length : Int) 0) else (none)) else (none)) = some (r1, r2) := by first | (rw [hji2] at H; exact H) | (simp only [hji2] at H ⊢; exact H)
 have hji2w : (IntKind.i64.wrap (Int.tdiv (wrap64 ((l0.length : Int) + 7)) 8)) = ji2 := (i64_w _).trans hji2
 by_cases c3 : 0 ≤ (ji2)
 ·rw [if_pos c3] at H
  have c3b0 := eq_true c3
  have c3b1 : decide (0 ≤ (ji2)) = true := decide_eq_true c3
  clear c3
  by_cases c4 : (ji2 : Int).toNat ≤ 281474976710656
  ·rw [if_pos c4] at H
   have c4b0 := eq_true c4
   have c4b1 : decide ((ji2 : Int).toNat ≤ 281474976710656) = true := decide_eq_true c4
   clear c4
   obtain ⟨y110, hy110⟩ : ∃ y_ : List Int, y_ = (List.replicate (ji2 : Int).toNat 0) := ⟨_, rfl⟩
   replace H : (wire_Pack.l0 k y110 l0 (l0.length : Int) 0) = some (r1, r2) := by first | (rw [hy110]; with_reducible exact H) | (have H2_ := (Option.bind_some _ _).symm.trans H; rw [hy110]; with_reducible exact H2_) | (have H2_ := (Option.bind_some _ _).symm.trans H; with_reducible exact H2_) | with_reducible exact H | (rw [hy110]; exact H) | exact H
   have Ny110 := Aside0.mk hy110
   clear hy110
   have H' := Aside0.mk H
   clear H
   go_enter Try.func70, Try.ntmps70
   go_wp2_with (first | ((with_reducible refine gate_dst (N := 11) rfl ?_); refine Kd.R_make (Kd.int .u8) _ 5 rfl (N := 11) rfl 58 _ _ rfl ji2 rfl rfl Try.underlying58 (.int .u8 0) 1 info5 rfl (by decide) (by omega) 0 (ok := fun _ => True) (okp := fun _ => True) rfl (fun _ hk => hk) trivial (of_decide_eq_true (by first | (with_reducible assumption) | assumption)) (Nat.le_trans (Nat.mul_le_mul_right _ (of_decide_eq_true (by first | (with_reducible assumption) | assumption) : ji2.toNat ≤ 281474976710656)) (by omega)) (Below.refl _ _) (Nat.le_refl _) ?_; intro v111 w5 ho6 hb hg_ hnew_; clear hg_ hnew_; (first | rw [← Ny110.out] at ho6 | (simp only [Int.reduceToNat] at ho6; rw [← Ny110.out] at ho6)); have n0_ := Aside0.mk (Kd.R_lower ho6 (below_size (bl0_ HB))); have n1_ := Aside0.mk (below_step (bl0_ HB) hb); clear HB; have HO112 := n0_; have HB := n1_; clear n0_ n1_; clear hb ho6))
   go_loopg [14] k (fun kq v14 w' => ∃ (x4_1 : List Int) (x14_1 : Int), v14 = .int .i64 x14_1 ∧ Aside0 (wire_Pack.l0 kq x4_1 l0 (l0.length : Int) x14_1 = some (r1, r2)) ∧ Aside0 (kq ≤ k) ∧ Aside0 (Kd.R (Kd.int .u8) 5 w' w.heap.size (fun _ => True) v111 x4_1) ∧ Aside0 (Below w.heap.size w w'))
   case atStart => exact ⟨(y110), (0), (by first | rfl | (simp; done) | (simp [*]; done)), H', ⟨Nat.le_refl _⟩, ⟨kr_ HO112⟩, ⟨bl0_ HB⟩⟩
   case round =>
    clear H'
    try clear p2
    try clear c3
    try clear c3b0
    try clear c3b1
    try clear c4
    try clear c4b0
    try clear c4b1
    try clear p6
    obtain ⟨x4_1, x14_1, rfl, HA, HK1, HO_4, HB⟩ := hrel
    cases gk with
    | zero => exact absurd HA.out (by simp [wire_Pack.l0])
    | succ k1 =>
     have H := HA.out
     clear HA
     simp only [wire_Pack.l0] at H
     by_cases c7 : x14_1 < (l0.length : Int)
     ·rw [if_pos c7] at H
      have c7b0 : decide (x14_1 < (l0.length : Int)) = true := decide_eq_true c7
      clear c7
      by_cases c8 : 0 ≤ x14_1
      ·rw [if_pos c8] at H
       have c8b0 : decide (0 ≤ x14_1) = true := decide_eq_true c8
       clear c8
       by_cases c9 : x14_1 < (l0.length : Int)
       ·rw [if_pos c9] at H
        have c9b0 : decide (x14_1 < (l0.length : Int)) = true := decide_eq_true c9
        clear c9
        by_cases c10 : (rd l0 x14_1) = 0
        ·rw [if_pos c10] at H
         have c10b0 : ((rd l0 x14_1) == 0) = true := beq_iff_eq.mpr c10
         have c10b1 : ((rd l0 x14_1) != 0) = false := bne_eq_false_iff_eq.mpr c10
         clear c10
         have H' := Aside0.mk H
         clear H
         have p113 : 0 ≤ (x14_1 : Int) := of_decide_eq_true (by first | (with_reducible assumption) | assumption)
         have q113 : x14_1 < (l0.length : Int) := of_decide_eq_true (by first | (with_reducible assumption) | assumption)
         obtain ⟨ad113, e113, hx113_0⟩ := Kd.at_int HR0.out x14_1 p113 q113
         cases e113
         replace hx113_0 := (HB.out.cell (World.block_lt_of_cell? w _ hx113_0)).trans hx113_0
         replace p113 := eq_true p113
         replace q113 := eq_true q113
         go_wp2
         go_roundg k1
         case measure => have := HK1.out; omega
         case rel => exact ⟨(x4_1), (wrap64 (x14_1 + 1)), (by first | rfl | (simp; done) | (simp [*]; done)), H', ⟨by have := HK1.out; omega⟩, ⟨kr_ HO_4⟩, ⟨bl0_ HB⟩⟩
        ·rw [if_neg c10] at H
         have c10b0 : ((rd l0 x14_1) == 0) = false := beq_eq_false_iff_ne.mpr c10
         have c10b1 : ((rd l0 x14_1) != 0) = true := bne_iff_ne.mpr c10
         by_cases c11 : (rd l0 x14_1) = 1
         ·rw [if_pos c11] at H
          have c11b0 : ((rd l0 x14_1) == 1) = true := beq_iff_eq.mpr c11
          have c11b1 : ((rd l0 x14_1) != 1) = false := bne_eq_false_iff_eq.mpr c11
          clear c11
          obtain ⟨ji12, hji12⟩ : ∃ j_ : Int, (wrap64 (Int.tdiv x14_1 8)) = j_ := ⟨_, rfl⟩
          replace H : (if 0 ≤ (ji12) then (if (ji12) < (x4_1.length : Int) then (if 0 ≤ (Int.tmod x14_1 8) then (wire_Pack.l0 k1 (x4_1.set ((ji12) : Int).toNat (Go.bits .or .u8 (rd x4_1 (ji12)) (shl .u8 1 (Int.tmod x14_1 8)))) l0 (l0.length : Int) (wrap64 (x14_1 + 1))) else (none)) else (none)) else (none)) = some (r1, r2) := by first | (rw [hji12] at H; exact H) | (simp only [hji12] at H ⊢; exact H)
          have hji12w : (IntKind.i64.wrap (Int.tdiv x14_1 8)) = ji12 := (i64_w _).trans hji12
          by_cases c13 : 0 ≤ (ji12)
          ·rw [if_pos c13] at H
           have c13b0 : decide (0 ≤ (ji12)) = true := decide_eq_true c13
           clear c13
           by_cases c14 : (ji12) < (x4_1.length : Int)
           ·rw [if_pos c14] at H
            have c14b0 : decide ((ji12) < (x4_1.length : Int)) = true := decide_eq_true c14
            clear c14
            obtain ⟨ji15, hji15⟩ : ∃ j_ : Int, (Int.tmod x14_1 8) = j_ := ⟨_, rfl⟩
            replace H : (if 0 ≤ (ji15) then (wire_Pack.l0 k1 (x4_1.set ((ji12) : Int).toNat (Go.bits .or .u8 (rd x4_1 (ji12)) (shl .u8 1 (ji15)))) l0 (l0.length : Int) (wrap64 (x14_1 + 1))) else (none)) = some (r1, r2) := by first | (rw [hji15] at H; exact H) | (simp only [hji15] at H ⊢; exact H)
            by_cases c16 : 0 ≤ (ji15)
            ·rw [if_pos c16] at H
             have c16b0 := eq_true c16
             have c16b1 : decide (0 ≤ (ji15)) = true := decide_eq_true c16
             clear c16
             obtain ⟨ji17, hji17⟩ : ∃ j_ : Int, (shl .u8 1 (ji15)) = j_ := ⟨_, rfl⟩
             replace H : (wire_Pack.l0 k1 (x4_1.set ((ji12) : Int).toNat (Go.bits .or .u8 (rd x4_1 (ji12)) (ji17))) l0 (l0.length : Int) (wrap64 (x14_1 + 1))) = some (r1, r2) := by first | (rw [hji17] at H; exact H) | (simp only [hji17] at H ⊢; exact H)
             have hji17_ : (IntKind.u8.wrap (1 * 2 ^ min (ji15).toNat 8)) = ji17 := hji17
             have hji17z : (ji15) ≤ 8 → (IntKind.u8.wrap (1 * 2 ^ (ji15).toNat)) = ji17 := shl_small hji17
             have hji17u : (IntKind.u8.wrap (2 ^ min (ji15).toNat 8)) = ji17 := by have h_ := hji17_; rw [Int.one_mul] at h_; exact h_
             have hji17v : (ji15) ≤ 8 → (IntKind.u8.wrap (2 ^ (ji15).toNat)) = ji17 := fun hle_ => by have h_ := hji17z hle_; rw [Int.one_mul] at h_; exact h_
             obtain ⟨y115, hy115⟩ : ∃ y_ : List Int, y_ = (x4_1.set ((ji12) : Int).toNat (Go.bits .or .u8 (rd x4_1 (ji12)) (ji17))) := ⟨_, rfl⟩
             replace H : (wire_Pack.l0 k1 y115 l0 (l0.length : Int) (wrap64 (x14_1 + 1))) = some (r1, r2) := by first | (rw [hy115]; with_reducible exact H) | (have H2_ := (Option.bind_some _ _).symm.trans H; rw [hy115]; with_reducible exact H2_) | (have H2_ := (Option.bind_some _ _).symm.trans H; with_reducible exact H2_) | with_reducible exact H | (rw [hy115]; exact H) | exact H
             have Ny115 := Aside0.mk hy115
             clear hy115
             have H' := Aside0.mk H
             clear H
             have p113 : 0 ≤ (x14_1 : Int) := of_decide_eq_true (by first | (with_reducible assumption) | assumption)
             have q113 : x14_1 < (l0.length : Int) := of_decide_eq_true (by first | (with_reducible assumption) | assumption)
             obtain ⟨ad113, e113, hx113_0⟩ := Kd.at_int HR0.out x14_1 p113 q113
             cases e113
             replace hx113_0 := (HB.out.cell (World.block_lt_of_cell? w _ hx113_0)).trans hx113_0
             replace p113 := eq_true p113
             replace q113 := eq_true q113
             try go_wp2
             have n0_ := Aside0.mk (Kd.R_drew HO_4.out)
             have n1_ := Aside0.mk (below_drew1 HB.out)
             clear HO_4
             clear HB
             have HO_4 := n0_
             have HB := n1_
             clear n0_ n1_
             obtain ⟨Ao20, co20, eo20⟩ := Kd.R_slice HO_4.out
             (first | subst eo20 | (injection eo20 with f1_ f2_ f3_; have f4_ := f1_.symm; have f5_ := f3_.symm; clear f1_ f2_ f3_; subst f4_; subst f5_))
             have p114 : 0 ≤ ((ji12) : Int) := of_decide_eq_true (by first | (with_reducible assumption) | assumption)
             have q114 : (ji12) < (x4_1.length : Int) := of_decide_eq_true (by first | (with_reducible assumption) | assumption)
             obtain ⟨ad114, e114, hx114_0⟩ := Kd.at_int (Kd.R_reads' HO_4.out).2.2 (ji12) p114 q114
             cases e114
             replace p114 := eq_true p114
             replace q114 := eq_true q114
             have p18 : 0 ≤ ((ji12) : Int) := of_decide_eq_true (by first | (with_reducible assumption) | assumption)
             have q18 : ((ji12) : Int) < ((x4_1.length : Int) : Int) := of_decide_eq_true (by first | (with_reducible assumption) | assumption)
             obtain ⟨go18, co18, eo18, gb18, gl18, cl18, HG18⟩ := Kd.R_form HO_4.out (by omega)
             (first | cases eo18 | (injection eo18 with ea_ en_ ec_; (first | subst ea_ | (injection ea_ with ea_; subst ea_)); subst ec_; clear en_))
             have GB18 := Aside0.mk gb18
             have GG18 := Aside0.mk HG18
             clear gb18 gl18 HG18
             (first | simp only [add_plain] at hx114_0 | skip)
             obtain ⟨hx18_0, hf18_0⟩ := Kd.R_celln 0 HO_4.out ((ji12) : Int) p18 q18
             replace p18 := eq_true p18
             replace q18 := eq_true q18
             have HP21 := Kd.R_putn HO_4.out ((ji12) : Int) (Go.bits .or .u8 (rd x4_1 (ji12)) (ji17))
             rw [← Ny115.out] at HP21
             have HQ21 := Aside0.mk HP21
             clear HP21
             refine start_ (n := 11) (S := fun w' => w'.cell? ⟨go18, ((ji12)).toNat, none⟩ = some (.int .u8 (rd x4_1 (ji12)))) (ds := [10]) #[false, false, false, false, false, false, false, false, false, false, false] (by kernel_rfl) rfl rfl (hx114_0) (fun hHeld => ?_); refine with_tabW wire_Pack.tab9 wire_Pack.bits9 (fun HT_ HW_ => ?_)
             generalize wr.drew = w19 at HO_4 HB GG18 HQ21 hf18_0 hx114_0 hx18_0 hHeld ⊢
             refine pure_ (i := 0) (N := some 24) (v := ?_) (a' := ?_) #[true, false, false, false, false, false, false, false, false, false, false] rfl rfl (any_of HT_.out (by kernel_rfl)) (fun _ _ _ h => h) (Or.inl ⟨by rfl, ?_⟩) ?_ ?_
             rotate_left
             ·intro w'
              go_simp
              with_reducible rfl
             rotate_left
             ·simp only [Act.put, List.setIfInBounds_toArray, List.set_cons_zero, List.set_cons_succ, i64_w, i32_w]
              rfl
             refine pure_ (i := 1) (N := some 25) (v := ?_) (a' := ?_) #[true, true, false, false, false, false, false, false, false, false, false] rfl rfl (any_of HT_.out (by kernel_rfl)) (fun _ _ _ h => h) (Or.inl ⟨by rfl, ?_⟩) ?_ ?_
             rotate_left
             ·intro w'
              go_simp
              with_reducible rfl
             rotate_left
             ·simp only [Act.put, List.setIfInBounds_toArray, List.set_cons_zero, List.set_cons_succ, i64_w, i32_w]
              rfl
             refine pure_ (i := 2) (N := some 26) (v := ?_) (a' := ?_) #[true, true, true, false, false, false, false, false, false, false, false] rfl rfl (any_of HT_.out (by kernel_rfl)) (fun _ _ _ h => h) (Or.inl ⟨by rfl, ?_⟩) ?_ ?_
             rotate_left
             ·intro w'
              go_simp
              with_reducible rfl
             rotate_left
             ·simp only [Act.put, List.setIfInBounds_toArray, List.set_cons_zero, List.set_cons_succ, i64_w, i32_w]
              rfl
             refine pure_ (i := 3) (N := some 27) (v := ?_) (a' := ?_) #[true, true, true, true, false, false, false, false, false, false, false] rfl rfl (any_of HT_.out (by kernel_rfl)) (fun _ _ _ h => h) (Or.inl ⟨by rfl, ?_⟩) ?_ ?_
             rotate_left
             ·intro w'
              go_simp
              with_reducible rfl
             rotate_left
             ·simp only [Act.put, List.setIfInBounds_toArray, List.set_cons_zero, List.set_cons_succ, i64_w, i32_w]
              rfl
             refine pure_ (i := 5) (N := some 29) (v := ?_) (a' := ?_) #[true, true, true, true, false, true, false, false, false, false, false] rfl rfl (any_of HT_.out (by kernel_rfl)) (fun _ _ _ h => h) (Or.inl ⟨by rfl, ?_⟩) ?_ ?_
             rotate_left
             ·intro w'
              go_simp
              with_reducible rfl
             rotate_left
             ·simp only [Act.put, List.setIfInBounds_toArray, List.set_cons_zero, List.set_cons_succ, i64_w, i32_w]
              rfl
             refine pure_ (i := 6) (N := some 30) (v := ?_) (a' := ?_) #[true, true, true, true, false, true, true, false, false, false, false] rfl rfl (any_of HT_.out (by kernel_rfl)) (fun _ _ _ h => h) (Or.inl ⟨by rfl, ?_⟩) ?_ ?_
             rotate_left
             ·intro w'
              go_simp
              with_reducible rfl
             rotate_left
             ·simp only [Act.put, List.setIfInBounds_toArray, List.set_cons_zero, List.set_cons_succ, i64_w, i32_w]
              rfl
             refine pure_ (i := 7) (N := some 31) (v := ?_) (a' := ?_) #[true, true, true, true, false, true, true, true, false, false, false] rfl rfl (any_of HT_.out (by kernel_rfl)) (fun _ _ _ h => h) (Or.inl ⟨by rfl, ?_⟩) ?_ ?_
             rotate_left
             ·intro w'
              go_simp
              with_reducible rfl
             rotate_left
             ·simp only [Act.put, List.setIfInBounds_toArray, List.set_cons_zero, List.set_cons_succ, i64_w, i32_w]
              rfl
             refine take_ (i := 4) (N := some 28) (v := ?_) (a' := ?_) #[true, true, true, true, true, true, true, true, false, false, false] rfl rfl (take_ofW HT_.out HW_.out (by kernel_rfl)) (fun _ _ _ h => h) (Or.inl ⟨by rfl, ?_⟩) hHeld ?_ ?_
             rotate_left
             ·intro w' s0
              go_simp
              with_reducible rfl
             rotate_left
             ·simp only [Act.put, List.setIfInBounds_toArray, List.set_cons_zero, List.set_cons_succ, i64_w, i32_w]
              rfl
             refine pure_ (i := 8) (N := some 32) (v := ?_) (a' := ?_) #[true, true, true, true, true, true, true, true, true, false, false] rfl rfl (any_of HT_.out (by kernel_rfl)) (fun _ _ _ h => h) (Or.inl ⟨by rfl, ?_⟩) ?_ ?_
             rotate_left
             ·intro w'
              go_simp
              with_reducible rfl
             rotate_left
             ·simp only [Act.put, List.setIfInBounds_toArray, List.set_cons_zero, List.set_cons_succ, i64_w, i32_w]
              rfl
             refine pure_ (i := 9) (N := some 33) (v := ?_) (a' := ?_) #[true, true, true, true, true, true, true, true, true, true, false] rfl rfl (any_of HT_.out (by kernel_rfl)) (fun _ _ _ h => h) (Or.inl ⟨by rfl, ?_⟩) ?_ ?_
             rotate_left
             ·intro w'
              go_simp
              with_reducible rfl
             rotate_left
             ·simp only [Act.put, List.setIfInBounds_toArray, List.set_cons_zero, List.set_cons_succ, i64_w, i32_w]
              rfl
             refine last_ (i := 10) (N := none) #[true, true, true, true, true, true, true, true, true, true, true] rfl rfl (one_of HT_.out (by kernel_rfl)) (by decide) (fun K hK => ?_)
             refine skip_ (w1 := ?_) (by rfl) rfl ?_ ?_
             rotate_left
             ·go_simp
              rfl
             refine hK.out _ _ ?_
             clear hK K
             refine done_ (done_of HT_.out (by kernel_rfl)) ?_
             try go_wp2
             go_roundg k1
             case measure => have := HK1.out; omega
             case rel => exact ⟨(y115), (wrap64 (x14_1 + 1)), (by first | rfl | (simp; done) | (simp [*]; done)), H', ⟨by have := HK1.out; omega⟩, ⟨kr_ HQ21⟩, ⟨by repeat (first | (with_reducible first | exact HB.out | apply below_alloc | apply pw_below_drewN | apply below_drew1 | refine below_set ?_ GB18.out) | exact HB.out)⟩⟩
            ·rw [if_neg c16] at H
             exact absurd H (by simp)
           ·rw [if_neg c14] at H
            exact absurd H (by simp)
          ·rw [if_neg c13] at H
           exact absurd H (by simp)
         ·rw [if_neg c11] at H
          have c11b0 : ((rd l0 x14_1) == 1) = false := beq_eq_false_iff_ne.mpr c11
          have c11b1 : ((rd l0 x14_1) != 1) = true := bne_iff_ne.mpr c11
          simp only [Option.some.injEq, Prod.mk.injEq] at H
          obtain ⟨rfl, rfl⟩ := H
          have p113 : 0 ≤ (x14_1 : Int) := of_decide_eq_true (by first | (with_reducible assumption) | assumption)
          have q113 : x14_1 < (l0.length : Int) := of_decide_eq_true (by first | (with_reducible assumption) | assumption)
          obtain ⟨ad113, e113, hx113_0⟩ := Kd.at_int HR0.out x14_1 p113 q113
          cases e113
          replace hx113_0 := (HB.out.cell (World.block_lt_of_cell? w _ hx113_0)).trans hx113_0
          replace p113 := eq_true p113
          replace q113 := eq_true q113
          go_wp2
          go_ret2
          exact ⟨_, by first | rfl | (simp [errW_none, errW_some] <;> rfl) | (simp only [← hji2]; first | rfl | (simp [errW_none, errW_some] <;> rfl)) | (simp [*, errW_none, errW_some] <;> rfl), by first | exact Kd.R_nil _ _ _ _ _ | exact Kd.N_nil _ _ _ _ _ | exact Kd.V_nil _ _ _ _ _ | exact Kd.Q_nil _ _ _ _ _ | exact Kd.S_nil _ _ _ _ _, bl0_ HB⟩
       ·rw [if_neg c9] at H
        exact absurd H (by simp)
      ·rw [if_neg c8] at H
       exact absurd H (by simp)
     ·rw [if_neg c7] at H
      have c7b0 : decide (x14_1 < (l0.length : Int)) = false := decide_eq_false c7
      clear c7
      simp only [Option.some.injEq, Prod.mk.injEq] at H
      obtain ⟨rfl, rfl⟩ := H
      go_wp2
      go_ret2
      exact ⟨_, by first | rfl | (simp [errW_none, errW_some] <;> rfl) | (simp only [← hji2]; first | rfl | (simp [errW_none, errW_some] <;> rfl)) | (simp [*, errW_none, errW_some] <;> rfl), kr_ HO_4, bl0_ HB⟩
  ·rw [if_neg c4] at H
   exact absurd H (by simp)
 ·rw [if_neg c3] at H
  exact absurd H (by simp)
end Go.Proofs.Ytocicifgglkaeaa.PP
end

section
namespace Go.Proofs.Ytocicifgglkaeaa.ExtF
open Go.RowKit Go.Proofs.YtocicifgglkaeaaW.PrintWords Go.Proofs.YtocicifgglkaeaaW.PrintLast Go.Proofs.YtocicifgglkaeaaW.PrintMore Go.Proofs.Ytocicifgglkaeaa.Ext Go.Proofs.Ytocicifgglkaeaa.PP
set_option linter.unusedVariables false
set_option linter.unusedSimpArgs false
theorem wrap64_id (x : Int) (h0 : -9223372036854775808 ≤ x) (h1 : x ≤ 9223372036854775807) : wrap64 x = x := by unfold wrap64; omega
def lays (l : List Int) : List Int := l.flatMap fun n => [n / 256, n % 256]
theorem lays_len (l : List Int) : (lays l).length = 2 * l.length := by
 induction l with
 | nil => rfl
 | cons x t ih => show ([x / 256, x % 256] ++ lays t).length = _; simp [ih]; omega
theorem lays_snoc (l : List Int) (x : Int) : lays (l ++ [x]) = lays l ++ [x / 256, x % 256] := by simp [lays]
def Words (l : List Int) : Prop := ∀ x ∈ l, 0 ≤ x ∧ x ≤ 65535
instance (l : List Int) : Decidable (Words l) := by unfold Words; infer_instance
theorem put_f (l : List Int) (a : Int) (h : 0 ≤ a ∧ a ≤ 65535) (hl : l.length ≤ 1000000000) : wire_Put.f l a = some (l ++ [a / 256, a % 256], 0) := by
 unfold wire_Put.f wire_behind.f
 rw [if_neg (by omega), if_neg (by omega), if_pos (by omega)]
 simp only [Option.bind_some]
 rw [if_pos (by simp; omega), show a / 256 % 256 = a / 256 from by omega]
def pdu_lay.f (l0 l1 : List Int) : Option (List Int) := if l1 ≠ [] ∧ Words l1 ∧ l0.length ≤ 100000000 ∧ l1.length ≤ 100000000 then some (l0 ++ lays l1) else none
set_option maxHeartbeats 8000000 in
set_option maxRecDepth 100000 in
theorem pdu_lay.calls (A0 : Option Addr) (c0 : Nat) (l0 : List Int) (A1 : Option Addr) (c1 : Nat) (l1 : List Int) (r : List Int) (w : World) (hr0 : Kd.C (Kd.int .u8) w A0 l0.length l0) (hc0 : l0.length ≤ c0) (hr1 : Kd.C (Kd.int .i64) w A1 l1.length l1) (hc1 : l1.length ≤ c1) (h : pdu_lay.f l0 l1 = some r) :
 Calls Try.prog 53 #[.slice A0 l0.length c0, .slice A1 l1.length c1] w fun e w' => ∃ v0_ : Value, e = .returned (v0_) ∧ Kd.R (Kd.int .u8) 5 w' w.heap.size (fun _ => True) v0_ r ∧ Below w.heap.size w w' := by
 unfold pdu_lay.f at h
 by_cases hc : l1 ≠ [] ∧ Words l1 ∧ l0.length ≤ 100000000 ∧ l1.length ≤ 100000000
 ·rw [if_pos hc] at h
  obtain rfl := Option.some.inj h
  obtain ⟨hne, hwd, hl0, hl1⟩ := hc
  have hpos : 0 < l1.length := List.length_pos_iff.2 hne
  have HR0 := Aside0.mk hr0
  have HR1 := Aside0.mk hr1
  have HW := Aside0.mk hwd
  clear hr0 hr1 hwd hne h
  have HB := Aside0.mk (Below.refl w.heap.size w)
  go_enter Try.func53, Try.ntmps53
  go_wp2
  go_loopg [0, 9] l1.length (fun kq v0 v9 w' => ∃ (i : Nat) (x0 : List Int) (A : Option Addr) (c : Nat), v9 = .int .i64 (i : Int) ∧ v0 = .slice A x0.length c ∧ Aside0 (i + kq = l1.length) ∧ Aside0 (x0 = l0 ++ lays (l1.take i)) ∧ Aside0 (Kd.C (Kd.int .u8) w' A x0.length x0) ∧ Aside0 (x0.length ≤ c) ∧ Aside0 (0 < i → Kd.R (Kd.int .u8) 5 w' w.heap.size (fun _ => True) (.slice A x0.length c) x0) ∧ Aside0 (Below w.heap.size w w'))
  case atStart => exact ⟨0, l0, A0, c0, rfl, rfl, ⟨by omega⟩, ⟨by simp [lays]⟩, ⟨by (with_reducible repeat (first | refine Kd.C_alloc ?_ _ | refine Kd.C_drewN ?_ _ | refine Kd.C_drew ?_)); exact HR0.out⟩, ⟨hc0⟩, ⟨fun h => absurd h (by omega)⟩, ⟨by repeat (first | exact HB.out | apply below_alloc | apply pw_below_drewN | apply below_drew1 | apply below_drew)⟩⟩
  case round =>
   obtain ⟨i, x0, A, c, rfl, rfl, HI, HX, HC, Hc, HRR, HB2⟩ := hrel
   cases gk with
   | zero =>
    have hi := HI.out
    have hx := HX.out
    obtain rfl : i = l1.length := by omega
    rw [List.take_length] at hx
    have ht : decide ((l1.length : Int) < (l1.length : Int)) = false := by simp
    go_wp2
    go_ret
    refine ⟨_, rfl, ?_, ?_⟩
    ·rw [← hx]; (with_reducible repeat (first | apply Kd.R_alloc | apply Kd.R_drewN | apply Kd.R_drew)); exact HRR.out hpos
    ·repeat (first | exact HB2.out | apply below_alloc | apply pw_below_drewN | apply below_drew1 | apply below_drew)
   | succ k1 =>
    have hi := HI.out
    have hlt : i < l1.length := by omega
    have ht : decide ((i : Int) < (l1.length : Int)) = true := decide_eq_true (by omega)
    obtain ⟨ad, ead, hx⟩ := Kd.at_int HR1.out (i : Int) (by omega) (by omega)
    cases ead
    replace hx := (HB2.out.cell (World.block_lt_of_cell? w _ hx)).trans hx
    have hrd : rd l1 (i : Int) = l1[i] := by simp [rd, List.getElem?_eq_getElem hlt]
    rw [hrd, Int.toNat_natCast] at hx
    have hwx := HW.out l1[i] (List.getElem_mem _)
    have hxl : x0.length = l0.length + 2 * i := by rw [HX.out, List.length_append, lays_len, List.length_take]; omega
    have fput := Aside0.mk (put_f x0 l1[i] hwx (by omega))
    have hnext : Aside0 (x0 ++ [l1[i] / 256, l1[i] % 256] = l0 ++ lays (l1.take (i + 1))) := ⟨by rw [List.take_succ_eq_append_getElem hlt, lays_snoc, ← List.append_assoc, ← HX.out]⟩
    clear hxl
    generalize l1[i] = n at hx fput hnext
    generalize x0 ++ [n / 256, n % 256] = y at fput hnext
    go_wp2_with (go_at_call 69; refine (wire_Put.calls A c x0 n y 0 _ (by (with_reducible repeat (first | refine Kd.C_alloc ?_ _ | refine Kd.C_drewN ?_ _ | refine Kd.C_drew ?_)); exact HC.out) Hc.out fput.out).mono ?_; rintro e w2 ⟨v, rfl, HR, HB⟩; obtain ⟨A2, c2, rfl, hc2, HC2⟩ := Kd.R_reads HR; have HR' := Aside0.mk HR; have HC2' := Aside0.mk HC2; have hc2' := Aside0.mk hc2; have HBn := Aside0.mk (below_step (by repeat (first | exact HB2.out | apply below_alloc | apply pw_below_drewN | apply below_drew1 | apply below_drew)) HB); have hge := below_size (by repeat (first | exact HB2.out | apply below_alloc | apply pw_below_drewN | apply below_drew1 | apply below_drew)); clear HR HC2 hc2 HB)
    go_roundg k1
    case measure => omega
    case rel => exact ⟨i + 1, y, A2, c2, by simp, rfl, ⟨by omega⟩, hnext, ⟨by (with_reducible repeat (first | refine Kd.C_alloc ?_ _ | refine Kd.C_drewN ?_ _ | refine Kd.C_drew ?_)); exact HC2'.out⟩, hc2', ⟨fun _ => by (with_reducible repeat (first | apply Kd.R_alloc | apply Kd.R_drewN | apply Kd.R_drew)); exact Kd.R_lower HR'.out hge⟩, ⟨by repeat (first | exact HBn.out | apply below_alloc | apply pw_below_drewN | apply below_drew1 | apply below_drew)⟩⟩
 ·rw [if_neg hc] at h
  cases h
end Go.Proofs.Ytocicifgglkaeaa.ExtF
end

section
namespace Go.Proofs.Ytocicifgglkaeaa.ExtN
open Go.RowKit Go.Proofs.YtocicifgglkaeaaW.PrintWords Go.Proofs.YtocicifgglkaeaaW.PrintLast Go.Proofs.YtocicifgglkaeaaW.PrintMore Go.Proofs.Ytocicifgglkaeaa.Ext Go.Proofs.Ytocicifgglkaeaa.ExtF
set_option linter.unusedVariables false
set_option linter.unusedSimpArgs false
attribute [local go_sem] max2_int min2_int max_two min_two max_three min_three max_four min_four
set_option maxHeartbeats 8000000 in
set_option maxRecDepth 100000 in
theorem pdu_from.calls (A : Option Addr) (c : Nat) (l : List Int) (i j : Int) (v : Value) (w : World) (hcut : ∀ W : World, (Instr.slice 58 (.slice A l.length c) (some (.int .i64 j)) none none).run Try.prog W = .ok v W) (hj : min i (l.length : Int) = j) :
 Calls Try.prog 61 #[.slice A l.length c, .int .i64 i] w fun e w' => e = .returned v ∧ Drawn0 w w' := by
 by_cases h : i ≤ (l.length : Int)
 ·have h1 : decide ((l.length : Int) < i) = false := by simpa using h
  obtain rfl : i = j := by omega
  go_enter Try.func61, Try.ntmps61
  go_wp2
  go_ret
  exact ⟨rfl, by repeat (first | exact Drawn0.refl _ | apply Drawn0.step)⟩
 ·have h1 : decide ((l.length : Int) < i) = true := by simpa using h
  have hjl : (l.length : Int) = j := by omega
  go_enter Try.func61, Try.ntmps61
  go_wp2
  go_ret
  exact ⟨rfl, by repeat (first | exact Drawn0.refl _ | apply Drawn0.step)⟩
end Go.Proofs.Ytocicifgglkaeaa.ExtN
end

section
namespace Go.Proofs.Ytocicifgglkaeaa.PQ
open Go.RowKit Go.Proofs.YtocicifgglkaeaaW.PrintWords Go.Proofs.YtocicifgglkaeaaW.PrintLast Go.Proofs.YtocicifgglkaeaaW.PrintMore
attribute [local go_sem] max2_int min2_int max_two min_two max_three min_three max_four min_four   
set_option linter.unusedVariables false
set_option linter.unusedSimpArgs false
open Go.Proofs.Ytocicifgglkaeaa.Ext Go.Proofs.Ytocicifgglkaeaa.PP Go.Proofs.Ytocicifgglkaeaa.ExtF
def errW : Option Int → Value
 | none => .nilIface
 | some c => .iface 0 (.int .i64 c)
theorem errW_none : errW none = .nilIface := rfl
theorem errW_some (c : Int) : errW (some c) = .iface 0 (.int .i64 c) := rfl
theorem info3 : (Try.prog.info? 3).map (fun i => (i.zero, i.size, i.bytes)) = some (some (.int .i64 0), 1, 8) := by kernel_rfl
theorem info5 : (Try.prog.info? 5).map (fun i => (i.zero, i.size, i.bytes)) = some (some (.int .u8 0), 1, 1) := by kernel_rfl
end Go.Proofs.Ytocicifgglkaeaa.PQ
end

section
namespace Go.Proofs.Ytocicifgglkaeaa.ExtM
open Go.RowKit Go.Proofs.YtocicifgglkaeaaW.PrintWords Go.Proofs.YtocicifgglkaeaaW.PrintLast Go.Proofs.YtocicifgglkaeaaW.PrintMore Go.Proofs.Ytocicifgglkaeaa.Ext Go.Proofs.Ytocicifgglkaeaa.ExtF Go.Proofs.Ytocicifgglkaeaa.PQ
set_option linter.unusedVariables false
set_option linter.unusedSimpArgs false
def Bits (l : List Int) : Prop := ∀ x ∈ l, x = 0 ∨ x = 1
instance (l : List Int) : Decidable (Bits l) := by unfold Bits; infer_instance
def isB (a : Int) : Bool := decide (0 ≤ a ∧ a ≤ 65535)
def spanB (a n : Int) : Bool := decide (0 ≤ a ∧ a ≤ 65535 ∧ a + n ≤ 65536)
def valB (bit : Bool) (l : List Int) (lo hi : Nat) : Bool := decide (lo ≤ l.length ∧ l.length ≤ hi) && (if bit then decide (Bits l) else decide (Words l))
def mayB (fn a1 a2 : Int) (l0 : List Int) (a4 a5 a6 : Int) : Bool :=
 if fn = 1 ∨ fn = 2 then ((l0.length : Int) == 0) && ((a5 == 0) && (a6 == 0)) && (a4 == 0) && decide (1 ≤ a2) && decide (a2 ≤ 2000) && spanB a1 a2
 else if fn = 3 ∨ fn = 4 then ((l0.length : Int) == 0) && ((a5 == 0) && (a6 == 0)) && (a4 == 0) && decide (1 ≤ a2) && decide (a2 ≤ 125) && spanB a1 a2
 else if fn = 5 then ((a5 == 0) && (a6 == 0)) && (a4 == 0) && (a2 == 0) && valB true l0 1 1 && spanB a1 1
 else if fn = 6 then ((a5 == 0) && (a6 == 0)) && (a4 == 0) && (a2 == 0) && valB false l0 1 1 && spanB a1 1
 else if fn = 15 then ((a5 == 0) && (a6 == 0)) && (a4 == 0) && (a2 == (l0.length : Int)) && valB true l0 1 1968 && spanB a1 (l0.length : Int)
 else if fn = 16 then ((a5 == 0) && (a6 == 0)) && (a4 == 0) && (a2 == (l0.length : Int)) && valB false l0 1 123 && spanB a1 (l0.length : Int)
 else if fn = 22 then ((l0.length : Int) == 0) && (a4 == 0) && (a2 == 0) && spanB a1 1 && isB a5 && isB a6
 else if fn = 23 then ((a5 == 0) && (a6 == 0)) && decide (1 ≤ a2) && decide (a2 ≤ 125) && spanB a1 a2 && valB false l0 1 121 && spanB a4 (l0.length : Int)
 else false
def basculeref03_May.f (a0_0 a0_1 a0_2 : Int) (l0_3 : List Int) (a0_4 a0_5 a0_6 : Int) : Option Bool := some (mayB a0_0 a0_1 a0_2 l0_3 a0_4 a0_5 a0_6)
end Go.Proofs.Ytocicifgglkaeaa.ExtM
end

section
namespace Go.Proofs.Ytocicifgglkaeaa.PQ
open Go.RowKit Go.Proofs.YtocicifgglkaeaaW.PrintWords Go.Proofs.YtocicifgglkaeaaW.PrintLast Go.Proofs.YtocicifgglkaeaaW.PrintMore
attribute [local go_sem] max2_int min2_int max_two min_two max_three min_three max_four min_four   
set_option linter.unusedVariables false
set_option linter.unusedSimpArgs false
open Go.Proofs.Ytocicifgglkaeaa.Ext Go.Proofs.Ytocicifgglkaeaa.PP Go.Proofs.Ytocicifgglkaeaa.ExtF
def pdu_within.f (a0 : Int) (a1 : Int) (a2 : Int) : Option (Bool) := if a0 ≥ a1 then (some (decide (a0 ≤ a2))) else (some false)
set_option maxHeartbeats 8000000 in
set_option maxRecDepth 100000 in
theorem pdu_within.calls (a0 : Int) (a1 : Int) (a2 : Int) (r : Bool) (w : World) (h : pdu_within.f a0 a1 a2 = some r) :
 Calls Try.prog 49 #[.int .i64 a0, .int .i64 a1, .int .i64 a2] w fun e w' => e = .returned (.bool r) ∧ Drawn0 w w' := by
 have H : (if a0 ≥ a1 then (some (decide (a0 ≤ a2))) else (some false)) = some r := h
 clear h
 by_cases c4 : a0 ≥ a1
 ·rw [if_pos c4] at H
  have c4b0 : decide (a1 ≤ a0) = true := decide_eq_true c4
  clear c4
  obtain rfl := Option.some.inj H
  go_enter Try.func49, Try.ntmps49
  go_wp2
  go_ret
  exact ⟨by first | rfl | (simp; done) | (simp [*]; done), by repeat (first | exact Drawn0.refl _ | apply Drawn0.step)⟩
 ·rw [if_neg c4] at H
  have c4b0 : decide (a1 ≤ a0) = false := decide_eq_false c4
  clear c4
  obtain rfl := Option.some.inj H
  go_enter Try.func49, Try.ntmps49
  go_wp2
  go_ret
  exact ⟨by first | rfl | (simp; done) | (simp [*]; done), by repeat (first | exact Drawn0.refl _ | apply Drawn0.step)⟩
def pdu_span.f (a0 : Int) (a1 : Int) : Option (Bool) := (pdu_within.f a0 0 65535).bind fun t101 => (if t101 = true then (some (decide (a1 ≤ (wrap64 (65536 - a0))))) else (some false))
set_option maxHeartbeats 8000000 in
set_option maxRecDepth 100000 in
theorem pdu_span.calls (a0 : Int) (a1 : Int) (r : Bool) (w : World) (h : pdu_span.f a0 a1 = some r) :
 Calls Try.prog 50 #[.int .i64 a0, .int .i64 a1] w fun e w' => e = .returned (.bool r) ∧ Drawn0 w w' := by
 have H : ((pdu_within.f a0 0 65535).bind fun t101 => (if t101 = true then (some (decide (a1 ≤ (wrap64 (65536 - a0))))) else (some false))) = some r := h
 clear h
 replace H := Option.bind_eq_some_iff.mp H
 obtain ⟨t101, A30, H⟩ := H
 replace H : (if t101 = true then (some (decide (a1 ≤ (wrap64 (65536 - a0))))) else (some false)) = some r := H
 have A3 := Aside0.mk A30
 clear A30
 by_cases c4 : t101 = true
 ·subst c4
  have H1 : (some (decide (a1 ≤ (wrap64 (65536 - a0))))) = some r := by rw [if_pos rfl] at H; exact H
  clear H
  have H := H1
  clear H1
  obtain rfl := Option.some.inj H
  go_enter Try.func50, Try.ntmps50
  go_wp2_with (first | ((with_reducible refine gate_callee (f := 49) rfl ?_); refine goesL_ (some 6) rfl rfl Try.func49 (by kernel_rfl) rfl #[.int .i64 a0, .int .i64 0, .int .i64 65535] rfl ar_ ?_; (with_reducible refine (pdu_within.calls a0 0 65535 true _ A3.out).mono ?_); rintro e w' ⟨rfl, ⟨nd, rfl⟩⟩; refine ⟨_, rfl, ?_⟩))
  go_ret
  exact ⟨by first | rfl | (simp; done) | (simp [*]; done), by repeat (first | exact Drawn0.refl _ | apply Drawn0.step)⟩
 ·replace c4 := Bool.eq_false_iff.mpr c4
  subst c4
  have H1 : (some false) = some r := by rw [if_neg (show ¬ (false = true) by decide)] at H; exact H
  clear H
  have H := H1
  clear H1
  obtain rfl := Option.some.inj H
  go_enter Try.func50, Try.ntmps50
  go_wp2_with (first | ((with_reducible refine gate_callee (f := 49) rfl ?_); refine goesL_ (some 6) rfl rfl Try.func49 (by kernel_rfl) rfl #[.int .i64 a0, .int .i64 0, .int .i64 65535] rfl ar_ ?_; (with_reducible refine (pdu_within.calls a0 0 65535 false _ A3.out).mono ?_); rintro e w' ⟨rfl, ⟨nd, rfl⟩⟩; refine ⟨_, rfl, ?_⟩))
  go_ret
  exact ⟨by first | rfl | (simp; done) | (simp [*]; done), by repeat (first | exact Drawn0.refl _ | apply Drawn0.step)⟩
def pdu_all.l0 : Nat → Int → List Int → Int → Int → Option (Bool)
 | 0, _, _, _, _ => none
 | k + 1, x1, x7, x8, x9 => if x9 < x8 then (if 0 ≤ x9 then (if x9 < (x7.length : Int) then ((pdu_within.f (rd x7 x9) 0 x1).bind fun t103 => (if t103 = true then (pdu_all.l0 k x1 x7 x8 (wrap64 (x9 + 1))) else (some false))) else (none)) else (none)) else (some true)
def pdu_all.f (k : Nat) (l0 : List Int) (a1 : Int) : Option (Bool) := pdu_all.l0 k a1 l0 (l0.length : Int) 0
theorem pdu_all.mono_l : ∀ k, (∀ y0 y1 y2 y3, LeO (pdu_all.l0 k y0 y1 y2 y3) (pdu_all.l0 (k + 1) y0 y1 y2 y3))
 | 0 => fun _ _ _ _ r h => by simp [pdu_all.l0] at h
 | k + 1 => by
  have ih0 := pdu_all.mono_l k
  ·intro y0 y1 y2 y3
   unfold pdu_all.l0
   repeat' first
   | (with_reducible exact ih0 _ _ _ _)
   | (with_reducible exact LeO.refl _)
   | (with_reducible exact LeO.none _)
   | (with_reducible refine LeO.ite ?_ ?_)
   | (with_reducible refine LeO.bind ?_ (fun _ => ?_))
   | exact ih0 _ _ _ _
   | exact LeO.none _
   | refine LeO.ite ?_ ?_
   | refine LeO.bind ?_ (fun _ => ?_)
theorem pdu_all.mono : ∀ a0 a1 k, LeO (pdu_all.f k a0 a1) (pdu_all.f (k + 1) a0 a1) := by
 intro a0 a1 k
 have ih0 := pdu_all.mono_l k
 unfold pdu_all.f
 repeat' first
  | (with_reducible exact ih0 _ _ _ _)
  | (with_reducible exact LeO.refl _)
  | (with_reducible exact LeO.none _)
  | (with_reducible refine LeO.ite ?_ ?_)
  | (with_reducible refine LeO.bind ?_ (fun _ => ?_))
  | exact ih0 _ _ _ _
  | exact LeO.none _
  | refine LeO.ite ?_ ?_
  | refine LeO.bind ?_ (fun _ => ?_)
set_option maxHeartbeats 8000000 in
set_option maxRecDepth 100000 in
theorem pdu_all.calls (k : Nat) (A0 : Option Addr) (c0 : Nat) (l0 : List Int) (a1 : Int) (r : Bool) (w : World) (hr0 : Kd.C (Kd.int .i64) w A0 l0.length l0) (hc0 : l0.length ≤ c0) (h : pdu_all.f k l0 a1 = some r) :
 Calls Try.prog 52 #[.slice A0 l0.length c0, .int .i64 a1] w fun e w' => e = .returned (.bool r) ∧ Drawn0 w w' := by
 have HR0 := Aside0.mk hr0
 have HC0 := Aside0.mk hc0
 clear hr0 hc0
 have H : (pdu_all.l0 k a1 l0 (l0.length : Int) 0) = some r := h
 clear h
 have H' := Aside0.mk H
 clear H
 go_enter Try.func52, Try.ntmps52
 go_wp2
 go_loopg [9] k (fun kq v9 w' => ∃ (x9_1 : Int), v9 = .int .i64 x9_1 ∧ Aside0 (pdu_all.l0 kq a1 l0 (l0.length : Int) x9_1 = some r) ∧ Aside0 (kq ≤ k) ∧ Drawn0 w w')
 case atStart => exact ⟨(0), (by first | rfl | (simp; done) | (simp [*]; done)), H', ⟨Nat.le_refl _⟩, by repeat (first | exact Drawn0.refl _ | apply Drawn0.step)⟩
 case round =>
  clear H'
  try clear p2
  obtain ⟨x9_1, rfl, HA, HK1, ⟨m1, rfl⟩⟩ := hrel
  cases gk with
  | zero => exact absurd HA.out (by simp [pdu_all.l0])
  | succ k1 =>
   have H := HA.out
   clear HA
   simp only [pdu_all.l0] at H
   by_cases c3 : x9_1 < (l0.length : Int)
   ·rw [if_pos c3] at H
    have c3b0 : decide (x9_1 < (l0.length : Int)) = true := decide_eq_true c3
    clear c3
    by_cases c4 : 0 ≤ x9_1
    ·rw [if_pos c4] at H
     have c4b0 : decide (0 ≤ x9_1) = true := decide_eq_true c4
     clear c4
     by_cases c5 : x9_1 < (l0.length : Int)
     ·rw [if_pos c5] at H
      have c5b0 : decide (x9_1 < (l0.length : Int)) = true := decide_eq_true c5
      clear c5
      replace H := Option.bind_eq_some_iff.mp H
      obtain ⟨t103, A60, H⟩ := H
      replace H : (if t103 = true then (pdu_all.l0 k1 a1 l0 (l0.length : Int) (wrap64 (x9_1 + 1))) else (some false)) = some r := H
      have A6 := Aside0.mk A60
      clear A60
      by_cases c7 : t103 = true
      ·subst c7
       have H1 : (pdu_all.l0 k1 a1 l0 (l0.length : Int) (wrap64 (x9_1 + 1))) = some r := by rw [if_pos rfl] at H; exact H
       clear H
       have H := H1
       clear H1
       have H' := Aside0.mk H
       clear H
       have p102 : 0 ≤ (x9_1 : Int) := of_decide_eq_true (by first | (with_reducible assumption) | assumption)
       have q102 : x9_1 < (l0.length : Int) := of_decide_eq_true (by first | (with_reducible assumption) | assumption)
       obtain ⟨ad102, e102, hx102_0⟩ := Kd.at_int HR0.out x9_1 p102 q102
       cases e102
       replace p102 := eq_true p102
       replace q102 := eq_true q102
       go_wp2_with (first | ((with_reducible refine gate_callee (f := 49) rfl ?_); refine goesL_ (some 15) rfl rfl Try.func49 (by kernel_rfl) rfl #[.int .i64 (rd l0 x9_1), .int .i64 0, .int .i64 a1] rfl ar_ ?_; (with_reducible refine (pdu_within.calls (rd l0 x9_1) 0 a1 true _ A6.out).mono ?_); rintro e w' ⟨rfl, ⟨nd, rfl⟩⟩; refine ⟨_, rfl, ?_⟩))
       go_roundg k1
       case measure => have := HK1.out; omega
       case rel => exact ⟨(wrap64 (x9_1 + 1)), (by first | rfl | (simp; done) | (simp [*]; done)), H', ⟨by have := HK1.out; omega⟩, by repeat (first | exact Drawn0.refl _ | apply Drawn0.step)⟩
      ·replace c7 := Bool.eq_false_iff.mpr c7
       subst c7
       have H1 : (some false) = some r := by rw [if_neg (show ¬ (false = true) by decide)] at H; exact H
       clear H
       have H := H1
       clear H1
       obtain rfl := Option.some.inj H
       have p102 : 0 ≤ (x9_1 : Int) := of_decide_eq_true (by first | (with_reducible assumption) | assumption)
       have q102 : x9_1 < (l0.length : Int) := of_decide_eq_true (by first | (with_reducible assumption) | assumption)
       obtain ⟨ad102, e102, hx102_0⟩ := Kd.at_int HR0.out x9_1 p102 q102
       cases e102
       replace p102 := eq_true p102
       replace q102 := eq_true q102
       go_wp2_with (first | ((with_reducible refine gate_callee (f := 49) rfl ?_); refine goesL_ (some 15) rfl rfl Try.func49 (by kernel_rfl) rfl #[.int .i64 (rd l0 x9_1), .int .i64 0, .int .i64 a1] rfl ar_ ?_; (with_reducible refine (pdu_within.calls (rd l0 x9_1) 0 a1 false _ A6.out).mono ?_); rintro e w' ⟨rfl, ⟨nd, rfl⟩⟩; refine ⟨_, rfl, ?_⟩))
       go_ret
       exact ⟨by first | rfl | (simp; done) | (simp [*]; done), by repeat (first | exact Drawn0.refl _ | apply Drawn0.step)⟩
     ·rw [if_neg c5] at H
      exact absurd H (by simp)
    ·rw [if_neg c4] at H
     exact absurd H (by simp)
   ·rw [if_neg c3] at H
    have c3b0 : decide (x9_1 < (l0.length : Int)) = false := decide_eq_false c3
    clear c3
    obtain rfl := Option.some.inj H
    go_wp2
    go_ret
    exact ⟨by first | rfl | (simp; done) | (simp [*]; done), by repeat (first | exact Drawn0.refl _ | apply Drawn0.step)⟩
def pdu_some.f (k : Nat) (l0 : List Int) (a1 : Int) (a2 : Int) (a3 : Int) : Option (Bool) := (pdu_within.f (l0.length : Int) a1 a2).bind fun t104 => (if t104 = true then ((pdu_all.f k l0 a3).bind fun t105 => (some t105)) else (some false))
theorem pdu_some.mono : ∀ a0 a1 a2 a3 k, LeO (pdu_some.f k a0 a1 a2 a3) (pdu_some.f (k + 1) a0 a1 a2 a3) := by
 intro a0 a1 a2 a3 k
 unfold pdu_some.f
 repeat' first
  | (with_reducible exact pdu_all.mono _ _ _)
  | (with_reducible exact LeO.refl _)
  | (with_reducible exact LeO.none _)
  | (with_reducible refine LeO.ite ?_ ?_)
  | (with_reducible refine LeO.bind ?_ (fun _ => ?_))
  | exact pdu_all.mono _ _ _
  | exact LeO.none _
  | refine LeO.ite ?_ ?_
  | refine LeO.bind ?_ (fun _ => ?_)
set_option maxHeartbeats 8000000 in
set_option maxRecDepth 100000 in
theorem pdu_some.calls (k : Nat) (A0 : Option Addr) (c0 : Nat) (l0 : List Int) (a1 : Int) (a2 : Int) (a3 : Int) (r : Bool) (w : World) (hr0 : Kd.C (Kd.int .i64) w A0 l0.length l0) (hc0 : l0.length ≤ c0) (h : pdu_some.f k l0 a1 a2 a3 = some r) :
 Calls Try.prog 51 #[.slice A0 l0.length c0, .int .i64 a1, .int .i64 a2, .int .i64 a3] w fun e w' => e = .returned (.bool r) ∧ Drawn0 w w' := by
 have HR0 := Aside0.mk hr0
 have HC0 := Aside0.mk hc0
 clear hr0 hc0
 have H : ((pdu_within.f (l0.length : Int) a1 a2).bind fun t104 => (if t104 = true then ((pdu_all.f k l0 a3).bind fun t105 => (some t105)) else (some false))) = some r := h
 clear h
 replace H := Option.bind_eq_some_iff.mp H
 obtain ⟨t104, A50, H⟩ := H
 replace H : (if t104 = true then ((pdu_all.f k l0 a3).bind fun t105 => (some t105)) else (some false)) = some r := H
 have A5 := Aside0.mk A50
 clear A50
 by_cases c6 : t104 = true
 ·subst c6
  have H1 : ((pdu_all.f k l0 a3).bind fun t105 => (some t105)) = some r := by rw [if_pos rfl] at H; exact H
  clear H
  have H := H1
  clear H1
  replace H := Option.bind_eq_some_iff.mp H
  obtain ⟨t105, A70, H⟩ := H
  replace H : (some t105) = some r := H
  have A7 := Aside0.mk A70
  clear A70
  obtain rfl := Option.some.inj H
  go_enter Try.func51, Try.ntmps51
  go_wp2_with (first | ((with_reducible refine gate_callee (f := 49) rfl ?_); refine goesL_ (some 13) rfl rfl Try.func49 (by kernel_rfl) rfl #[.int .i64 (l0.length : Int), .int .i64 a1, .int .i64 a2] rfl ar_ ?_; (with_reducible refine (pdu_within.calls (l0.length : Int) a1 a2 true _ A5.out).mono ?_); rintro e w' ⟨rfl, ⟨nd, rfl⟩⟩; refine ⟨_, rfl, ?_⟩) | (go_at_call 52; (with_reducible refine (pdu_all.calls k _ _ l0 a3 t105 _ ?side1 ?side2 A7.out).mono ?_); (case side1 => repeat (first | exact HR0.out | (with_reducible refine Kd.C_alloc ?_ _) | (with_reducible refine Kd.C_drewN ?_ _) | (with_reducible refine Kd.C_drew ?_))); (case side2 => exact HC0.out); rintro e w' ⟨rfl, ⟨nd, rfl⟩⟩))
  go_ret
  exact ⟨by first | rfl | (simp; done) | (simp [*]; done), by repeat (first | exact Drawn0.refl _ | apply Drawn0.step)⟩
 ·replace c6 := Bool.eq_false_iff.mpr c6
  subst c6
  have H1 : (some false) = some r := by rw [if_neg (show ¬ (false = true) by decide)] at H; exact H
  clear H
  have H := H1
  clear H1
  obtain rfl := Option.some.inj H
  go_enter Try.func51, Try.ntmps51
  go_wp2_with (first | ((with_reducible refine gate_callee (f := 49) rfl ?_); refine goesL_ (some 13) rfl rfl Try.func49 (by kernel_rfl) rfl #[.int .i64 (l0.length : Int), .int .i64 a1, .int .i64 a2] rfl ar_ ?_; (with_reducible refine (pdu_within.calls (l0.length : Int) a1 a2 false _ A5.out).mono ?_); rintro e w' ⟨rfl, ⟨nd, rfl⟩⟩; refine ⟨_, rfl, ?_⟩))
  go_ret
  exact ⟨by first | rfl | (simp; done) | (simp [*]; done), by repeat (first | exact Drawn0.refl _ | apply Drawn0.step)⟩
end Go.Proofs.Ytocicifgglkaeaa.PQ
end

section
namespace Go.Proofs.Ytocicifgglkaeaa.PQ
open Go.RowKit Go.Proofs.YtocicifgglkaeaaW.PrintWords Go.Proofs.YtocicifgglkaeaaW.PrintLast Go.Proofs.YtocicifgglkaeaaW.PrintMore
attribute [local go_sem] max2_int min2_int max_two min_two max_three min_three max_four min_four   
set_option linter.unusedVariables false
set_option linter.unusedSimpArgs false
open Go.Proofs.Ytocicifgglkaeaa.Ext Go.Proofs.Ytocicifgglkaeaa.PP Go.Proofs.Ytocicifgglkaeaa.ExtF
mutual
def pdu_Check.j0 : Nat → Bool → Int → Bool → Int → Int → Int → List Int → Int → Int → Int → Option (Int)
 | 0, _, _, _, _, _, _, _, _, _, _ => none
 | k + 1, x3, x4, x5, x107000, x107001, x107002, x107003, x107004, x107005, x107006 => if x107000 = 1 then (pdu_Check.j1 k x3 x4 x5 x107000 (x107000 == 1) x107000 x107001 x107002 x107003 x107004 x107005 x107006) else (pdu_Check.j1 k x3 x4 x5 x107000 (x107000 == 2) x107000 x107001 x107002 x107003 x107004 x107005 x107006)
def pdu_Check.j1 : Nat → Bool → Int → Bool → Int → Bool → Int → Int → Int → List Int → Int → Int → Int → Option (Int)
 | 0, _, _, _, _, _, _, _, _, _, _, _, _ => none
 | k + 1, x3, x4, x5, x23, x24, x107000, x107001, x107002, x107003, x107004, x107005, x107006 => if x24 = true then (if x5 = true then (if x4 = 0 then ((pdu_within.f x107002 1 2000).bind fun t107 => (if t107 = true then ((pdu_span.f x107001 x107002).bind fun t108 => (if t108 = true then (some 0) else (some 1))) else (some 1))) else (some 1)) else (some 1)) else (if x23 = 3 then (pdu_Check.j2 k x3 x4 x5 x23 (x23 == 3) x107000 x107001 x107002 x107003 x107004 x107005 x107006) else (pdu_Check.j2 k x3 x4 x5 x23 (x23 == 4) x107000 x107001 x107002 x107003 x107004 x107005 x107006))
def pdu_Check.j2 : Nat → Bool → Int → Bool → Int → Bool → Int → Int → Int → List Int → Int → Int → Int → Option (Int)
 | 0, _, _, _, _, _, _, _, _, _, _, _, _ => none
 | k + 1, x3, x4, x5, x23, x44, x107000, x107001, x107002, x107003, x107004, x107005, x107006 => if x44 = true then (if x5 = true then (if x4 = 0 then ((pdu_within.f x107002 1 125).bind fun t109 => (if t109 = true then ((pdu_span.f x107001 x107002).bind fun t110 => (if t110 = true then (some 0) else (some 1))) else (some 1))) else (some 1)) else (some 1)) else (if x23 = 5 then (if x5 = true then (if x107002 = 0 then ((pdu_some.f k x107003 1 1 1).bind fun t111 => (if t111 = true then ((pdu_span.f x107001 1).bind fun t112 => (if t112 = true then (some 0) else (some 1))) else (some 1))) else (some 1)) else (some 1)) else (if x23 = 6 then (if x5 = true then (if x107002 = 0 then ((pdu_some.f k x107003 1 1 65535).bind fun t113 => (if t113 = true then ((pdu_span.f x107001 1).bind fun t114 => (if t114 = true then (some 0) else (some 1))) else (some 1))) else (some 1)) else (some 1)) else (if x23 = 15 then (if x5 = true then (if x107002 = x4 then ((pdu_some.f k x107003 1 1968 1).bind fun t115 => (if t115 = true then ((pdu_span.f x107001 x4).bind fun t116 => (if t116 = true then (some 0) else (some 1))) else (some 1))) else (some 1)) else (some 1)) else (if x23 = 16 then (if x5 = true then (if x107002 = x4 then ((pdu_some.f k x107003 1 123 65535).bind fun t117 => (if t117 = true then ((pdu_span.f x107001 x4).bind fun t118 => (if t118 = true then (some 0) else (some 1))) else (some 1))) else (some 1)) else (some 1)) else (if x23 = 22 then (if x4 = 0 then (if x107004 = 0 then (if x107002 = 0 then ((pdu_span.f x107001 1).bind fun t119 => (if t119 = true then ((pdu_all.f k (([x107005, x107006] : List Int)) 65535).bind fun t123 => (if t123 = true then (some 0) else (some 1))) else (some 1))) else (some 1)) else (some 1)) else (some 1)) else (if x23 = 23 then (if x107005 = 0 then (if x107006 = 0 then ((pdu_within.f x107002 1 125).bind fun t124 => (if t124 = true then ((pdu_span.f x107001 x107002).bind fun t125 => (if t125 = true then ((pdu_some.f k x107003 1 121 65535).bind fun t126 => (if t126 = true then ((pdu_span.f x107004 x4).bind fun t127 => (if t127 = true then (some 0) else (some 1))) else (some 1))) else (some 1))) else (some 1))) else (some 1)) else (some 1)) else (if x3 = true then (some 0) else (some 1))))))))
end
def pdu_Check.f (k : Nat) (a0_0 : Int) (a0_1 : Int) (a0_2 : Int) (l0_3 : List Int) (a0_4 : Int) (a0_5 : Int) (a0_6 : Int) : Option (Int) := if a0_4 = 0 then (if a0_5 = 0 then (pdu_Check.j0 k false (l0_3.length : Int) (a0_6 == 0) a0_0 a0_1 a0_2 l0_3 a0_4 a0_5 a0_6) else (pdu_Check.j0 k false (l0_3.length : Int) false a0_0 a0_1 a0_2 l0_3 a0_4 a0_5 a0_6)) else (pdu_Check.j0 k false (l0_3.length : Int) false a0_0 a0_1 a0_2 l0_3 a0_4 a0_5 a0_6)
theorem pdu_Check.mono_l : ∀ k, (∀ y0 y1 y2 y3 y4 y5 y6 y7 y8 y9, LeO (pdu_Check.j0 k y0 y1 y2 y3 y4 y5 y6 y7 y8 y9) (pdu_Check.j0 (k + 1) y0 y1 y2 y3 y4 y5 y6 y7 y8 y9)) ∧ (∀ y0 y1 y2 y3 y4 y5 y6 y7 y8 y9 y10 y11, LeO (pdu_Check.j1 k y0 y1 y2 y3 y4 y5 y6 y7 y8 y9 y10 y11) (pdu_Check.j1 (k + 1) y0 y1 y2 y3 y4 y5 y6 y7 y8 y9 y10 y11)) ∧ (∀ y0 y1 y2 y3 y4 y5 y6 y7 y8 y9 y10 y11, LeO (pdu_Check.j2 k y0 y1 y2 y3 y4 y5 y6 y7 y8 y9 y10 y11) (pdu_Check.j2 (k + 1) y0 y1 y2 y3 y4 y5 y6 y7 y8 y9 y10 y11))
 | 0 => ⟨fun _ _ _ _ _ _ _ _ _ _ r h => by simp [pdu_Check.j0] at h, fun _ _ _ _ _ _ _ _ _ _ _ _ r h => by simp [pdu_Check.j1] at h, fun _ _ _ _ _ _ _ _ _ _ _ _ r h => by simp [pdu_Check.j2] at h⟩
 | k + 1 => by
  obtain ⟨ih0, ih1, ih2⟩ := pdu_Check.mono_l k
  refine ⟨?_, ?_, ?_⟩
  ·intro y0 y1 y2 y3 y4 y5 y6 y7 y8 y9
   unfold pdu_Check.j0
   repeat' first
   | (with_reducible exact ih0 _ _ _ _ _ _ _ _ _ _)
   | (with_reducible exact ih1 _ _ _ _ _ _ _ _ _ _ _ _)
   | (with_reducible exact ih2 _ _ _ _ _ _ _ _ _ _ _ _)
   | (with_reducible exact pdu_all.mono _ _ _)
   | (with_reducible exact pdu_some.mono _ _ _ _ _)
   | (with_reducible exact LeO.refl _)
   | (with_reducible exact LeO.none _)
   | (with_reducible refine LeO.ite ?_ ?_)
   | (with_reducible refine LeO.bind ?_ (fun _ => ?_))
   | exact ih0 _ _ _ _ _ _ _ _ _ _
   | exact ih1 _ _ _ _ _ _ _ _ _ _ _ _
   | exact ih2 _ _ _ _ _ _ _ _ _ _ _ _
   | exact pdu_all.mono _ _ _
   | exact pdu_some.mono _ _ _ _ _
   | exact LeO.none _
   | refine LeO.ite ?_ ?_
   | refine LeO.bind ?_ (fun _ => ?_)
  ·intro y0 y1 y2 y3 y4 y5 y6 y7 y8 y9 y10 y11
   unfold pdu_Check.j1
   repeat' first
   | (with_reducible exact ih0 _ _ _ _ _ _ _ _ _ _)
   | (with_reducible exact ih1 _ _ _ _ _ _ _ _ _ _ _ _)
   | (with_reducible exact ih2 _ _ _ _ _ _ _ _ _ _ _ _)
   | (with_reducible exact pdu_all.mono _ _ _)
   | (with_reducible exact pdu_some.mono _ _ _ _ _)
   | (with_reducible exact LeO.refl _)
   | (with_reducible exact LeO.none _)
   | (with_reducible refine LeO.ite ?_ ?_)
   | (with_reducible refine LeO.bind ?_ (fun _ => ?_))
   | exact ih0 _ _ _ _ _ _ _ _ _ _
   | exact ih1 _ _ _ _ _ _ _ _ _ _ _ _
   | exact ih2 _ _ _ _ _ _ _ _ _ _ _ _
   | exact pdu_all.mono _ _ _
   | exact pdu_some.mono _ _ _ _ _
   | exact LeO.none _
   | refine LeO.ite ?_ ?_
   | refine LeO.bind ?_ (fun _ => ?_)
  ·intro y0 y1 y2 y3 y4 y5 y6 y7 y8 y9 y10 y11
   unfold pdu_Check.j2
   repeat' first
   | (with_reducible exact ih0 _ _ _ _ _ _ _ _ _ _)
   | (with_reducible exact ih1 _ _ _ _ _ _ _ _ _ _ _ _)
   | (with_reducible exact ih2 _ _ _ _ _ _ _ _ _ _ _ _)
   | (with_reducible exact pdu_all.mono _ _ _)
   | (with_reducible exact pdu_some.mono _ _ _ _ _)
   | (with_reducible exact LeO.refl _)
   | (with_reducible exact LeO.none _)
   | (with_reducible refine LeO.ite ?_ ?_)
   | (with_reducible refine LeO.bind ?_ (fun _ => ?_))
   | exact ih0 _ _ _ _ _ _ _ _ _ _
   | exact ih1 _ _ _ _ _ _ _ _ _ _ _ _
   | exact ih2 _ _ _ _ _ _ _ _ _ _ _ _
   | exact pdu_all.mono _ _ _
   | exact pdu_some.mono _ _ _ _ _
   | exact LeO.none _
   | refine LeO.ite ?_ ?_
   | refine LeO.bind ?_ (fun _ => ?_)
theorem pdu_Check.mono : ∀ a0 a1 a2 a3 a4 a5 a6 k, LeO (pdu_Check.f k a0 a1 a2 a3 a4 a5 a6) (pdu_Check.f (k + 1) a0 a1 a2 a3 a4 a5 a6) := by
 intro a0 a1 a2 a3 a4 a5 a6 k
 obtain ⟨ih0, ih1, ih2⟩ := pdu_Check.mono_l k
 unfold pdu_Check.f
 repeat' first
  | (with_reducible exact ih0 _ _ _ _ _ _ _ _ _ _)
  | (with_reducible exact ih1 _ _ _ _ _ _ _ _ _ _ _ _)
  | (with_reducible exact ih2 _ _ _ _ _ _ _ _ _ _ _ _)
  | (with_reducible exact pdu_all.mono _ _ _)
  | (with_reducible exact pdu_some.mono _ _ _ _ _)
  | (with_reducible exact LeO.refl _)
  | (with_reducible exact LeO.none _)
  | (with_reducible refine LeO.ite ?_ ?_)
  | (with_reducible refine LeO.bind ?_ (fun _ => ?_))
  | exact ih0 _ _ _ _ _ _ _ _ _ _
  | exact ih1 _ _ _ _ _ _ _ _ _ _ _ _
  | exact ih2 _ _ _ _ _ _ _ _ _ _ _ _
  | exact pdu_all.mono _ _ _
  | exact pdu_some.mono _ _ _ _ _
  | exact LeO.none _
  | refine LeO.ite ?_ ?_
  | refine LeO.bind ?_ (fun _ => ?_)
set_option maxHeartbeats 8000000 in
set_option maxRecDepth 100000 in
theorem pdu_Check.calls (k : Nat) (a0_0 : Int) (a0_1 : Int) (a0_2 : Int) (A0_3 : Option Addr) (c0_3 : Nat) (l0_3 : List Int) (a0_4 : Int) (a0_5 : Int) (a0_6 : Int) (r : Int) (w : World) (hr0_3 : Kd.C (Kd.int .i64) w A0_3 l0_3.length l0_3) (hc0_3 : l0_3.length ≤ c0_3) (h : pdu_Check.f k a0_0 a0_1 a0_2 l0_3 a0_4 a0_5 a0_6 = some r) :
 Calls Try.prog 29 #[.agg #[.int .i64 a0_0, .int .i64 a0_1, .int .i64 a0_2, .slice A0_3 l0_3.length c0_3, .int .i64 a0_4, .int .i64 a0_5, .int .i64 a0_6]] w fun e w' => e = .returned (.int .i64 r) ∧ Below w.heap.size w w' := by
 have hu24 := Try.underlying24
 have HR0_3 := Aside0.mk hr0_3
 have HC0_3 := Aside0.mk hc0_3
 clear hr0_3 hc0_3
 have HB := Aside0.mk (Below.refl w.heap.size w)
 have H : (if a0_4 = 0 then (if a0_5 = 0 then (pdu_Check.j0 k false (l0_3.length : Int) (a0_6 == 0) a0_0 a0_1 a0_2 l0_3 a0_4 a0_5 a0_6) else (pdu_Check.j0 k false (l0_3.length : Int) false a0_0 a0_1 a0_2 l0_3 a0_4 a0_5 a0_6)) else (pdu_Check.j0 k false (l0_3.length : Int) false a0_0 a0_1 a0_2 l0_3 a0_4 a0_5 a0_6)) = some r := h
 clear h
 have HC2 := Aside0.mk H
 clear H
 go_enter Try.func29, Try.ntmps29
 go_upto_region 3 with (first | ((with_reducible refine gate_dst (N := 1) rfl ?_); (try (refine gate_guard (by rfl) ?_; dsimp only)); refine bx_ (N := 1) (cs := #[.int .i64 a0_0, .int .i64 a0_1, .int .i64 a0_2, .slice A0_3 l0_3.length c0_3, .int .i64 a0_4, .int .i64 a0_5, .int .i64 a0_6]) (t := 24) ?_; intro gb106 hg w3 hbox hb; have n0_ := Aside0.mk (below_step (bl0_ HB) hb); have n1_ := Aside0.mk (hbox); have n2_ := Aside0.mk ((by rw [hg]; exact (below_size (bl0_ HB)) : w.heap.size ≤ gb106)); have n3_ := Aside0.mk ((by rw [hg]; exact (below_size (bl0_ HB)) : w.heap.size ≤ gb106)); clear HB; have HB := n0_; have BK106 := n1_; have GW106 := n2_; have GE106 := n3_; clear n0_ n1_ n2_ n3_; clear hb hbox hg; refine cz7_ BK106.out ?_; intro hcz4_0 hcz4_1 hcz4_2 hcz4_3 hcz4_4 hcz4_5 hcz4_6 hfz4_0 hfz4_1 hfz4_2 hfz4_3 hfz4_4 hfz4_5 hfz4_6))
 (try simp only [Act.put, List.setIfInBounds_toArray, List.set_cons_zero, List.set_cons_succ])
 go_cut [5] (fun v5 wc => ∃ (kq : Nat) (x5_1 : Bool), v5 = .bool x5_1 ∧ Aside0 (pdu_Check.j0 kq false (l0_3.length : Int) x5_1 a0_0 a0_1 a0_2 l0_3 a0_4 a0_5 a0_6 = some r) ∧ Aside0 (kq ≤ k) ∧ Aside0 (wc.heap[gb106]? = some (.cells #[.int .i64 a0_0, .int .i64 a0_1, .int .i64 a0_2, (.slice A0_3 l0_3.length c0_3), .int .i64 a0_4, .int .i64 a0_5, .int .i64 a0_6] 24 (0, 0))) ∧ Aside0 (Below w.heap.size w wc))
 case first =>
  have H := HC2.out
  clear HC2
  by_cases c5 : a0_4 = 0
  ·rw [if_pos c5] at H
   have c5b0 : (a0_4 == 0) = true := beq_iff_eq.mpr c5
   have c5b1 : (a0_4 != 0) = false := bne_eq_false_iff_eq.mpr c5
   clear c5
   (first | rw [c5b0] | (simp only [i64_w, i32_w]; rw [c5b0]) | skip)
   by_cases c6 : a0_5 = 0
   ·rw [if_pos c6] at H
    have c6b0 : (a0_5 == 0) = true := beq_iff_eq.mpr c6
    have c6b1 : (a0_5 != 0) = false := bne_eq_false_iff_eq.mpr c6
    clear c6
    have H' := Aside0.mk H
    clear H
    refine cz7_ BK106.out ?_; intro hcz7_0 hcz7_1 hcz7_2 hcz7_3 hcz7_4 hcz7_5 hcz7_6 hfz7_0 hfz7_1 hfz7_2 hfz7_3 hfz7_4 hfz7_5 hfz7_6
    go_wp2
    go_meet
    case rel => exact ⟨_, ((a0_6 == 0)), (by first | rfl | (simp; done) | (simp [*]; done)), H', ⟨by first | omega | exact Nat.le_refl _⟩, ⟨bk_ BK106⟩, ⟨bl1_ HB GE106⟩⟩
   ·rw [if_neg c6] at H
    have c6b0 : (a0_5 == 0) = false := beq_eq_false_iff_ne.mpr c6
    have c6b1 : (a0_5 != 0) = true := bne_iff_ne.mpr c6
    have H' := Aside0.mk H
    clear H
    refine cz7_ BK106.out ?_; intro hcz8_0 hcz8_1 hcz8_2 hcz8_3 hcz8_4 hcz8_5 hcz8_6 hfz8_0 hfz8_1 hfz8_2 hfz8_3 hfz8_4 hfz8_5 hfz8_6
    go_wp2
    go_meet
    case rel => exact ⟨_, (false), (by first | rfl | (simp; done) | (simp [*]; done)), H', ⟨by first | omega | exact Nat.le_refl _⟩, ⟨bk_ BK106⟩, ⟨bl1_ HB GE106⟩⟩
  ·rw [if_neg c5] at H
   have c5b0 : (a0_4 == 0) = false := beq_eq_false_iff_ne.mpr c5
   have c5b1 : (a0_4 != 0) = true := bne_iff_ne.mpr c5
   (first | rw [c5b0] | (simp only [i64_w, i32_w]; rw [c5b0]) | skip)
   have H' := Aside0.mk H
   clear H
   refine cz7_ BK106.out ?_; intro hcz9_0 hcz9_1 hcz9_2 hcz9_3 hcz9_4 hcz9_5 hcz9_6 hfz9_0 hfz9_1 hfz9_2 hfz9_3 hfz9_4 hfz9_5 hfz9_6
   go_wp2
   go_meet
   case rel => exact ⟨_, (false), (by first | rfl | (simp; done) | (simp [*]; done)), H', ⟨by first | omega | exact Nat.le_refl _⟩, ⟨bk_ BK106⟩, ⟨bl1_ HB GE106⟩⟩
 case rest =>
  clear HC2
  try clear c2
  try clear p2
  try clear c5
  try clear c5b0
  try clear c5b1
  try clear c6
  try clear c6b0
  try clear c6b1
  try clear hcz4_0 hcz4_1 hcz4_2 hcz4_3 hcz4_4 hcz4_5 hcz4_6
  try clear hcz7_0 hcz7_1 hcz7_2 hcz7_3 hcz7_4 hcz7_5 hcz7_6
  try clear hcz8_0 hcz8_1 hcz8_2 hcz8_3 hcz8_4 hcz8_5 hcz8_6
  try clear hcz9_0 hcz9_1 hcz9_2 hcz9_3 hcz9_4 hcz9_5 hcz9_6
  try clear hfz4_0 hfz4_1 hfz4_2 hfz4_3 hfz4_4 hfz4_5 hfz4_6
  try clear hfz7_0 hfz7_1 hfz7_2 hfz7_3 hfz7_4 hfz7_5 hfz7_6
  try clear hfz8_0 hfz8_1 hfz8_2 hfz8_3 hfz8_4 hfz8_5 hfz8_6
  try clear hfz9_0 hfz9_1 hfz9_2 hfz9_3 hfz9_4 hfz9_5 hfz9_6
  obtain ⟨kq, x5_1, rfl, HA, HJ1, BK106, HB⟩ := hcut
  cases kq with
  | zero => exact absurd HA.out (by simp [pdu_Check.j0])
  | succ kj1 =>
   have H := HA.out
   clear HA
   simp only [pdu_Check.j0] at H
   have HC10 := Aside0.mk H
   clear H
   refine cz7_ BK106.out ?_; intro hcz11_0 hcz11_1 hcz11_2 hcz11_3 hcz11_4 hcz11_5 hcz11_6 hfz11_0 hfz11_1 hfz11_2 hfz11_3 hfz11_4 hfz11_5 hfz11_6
   go_upto_if 24 with (fail)
   go_cut [24] (fun v24 wc => ∃ (kq : Nat) (x24_9 : Bool), v24 = .bool x24_9 ∧ Aside0 (pdu_Check.j1 kq false (l0_3.length : Int) x5_1 a0_0 x24_9 a0_0 a0_1 a0_2 l0_3 a0_4 a0_5 a0_6 = some r) ∧ Aside0 (kq ≤ kj1) ∧ Aside0 (wc.heap[gb106]? = some (.cells #[.int .i64 a0_0, .int .i64 a0_1, .int .i64 a0_2, (.slice A0_3 l0_3.length c0_3), .int .i64 a0_4, .int .i64 a0_5, .int .i64 a0_6] 24 (0, 0))) ∧ Aside0 (Below w.heap.size w wc))
   case first =>
    have H := HC10.out
    clear HC10
    by_cases c12 : a0_0 = 1
    ·rw [if_pos c12] at H
     have c12b0 : (a0_0 == 1) = true := beq_iff_eq.mpr c12
     have c12b1 : (a0_0 != 1) = false := bne_eq_false_iff_eq.mpr c12
     clear c12
     (first | rw [c12b0] | (simp only [i64_w, i32_w]; rw [c12b0]) | skip)
     have H' := Aside0.mk H
     clear H
     go_wp2
     go_meet
     case rel => exact ⟨_, ((a0_0 == 1)), (by first | rfl | (simp; done) | (simp [*]; done)), H', ⟨by have := HJ1.out; first | omega | exact Nat.le_refl _⟩, ⟨bk_ BK106⟩, ⟨bl1_ HB GE106⟩⟩
    ·rw [if_neg c12] at H
     have c12b0 : (a0_0 == 1) = false := beq_eq_false_iff_ne.mpr c12
     have c12b1 : (a0_0 != 1) = true := bne_iff_ne.mpr c12
     (first | rw [c12b0] | (simp only [i64_w, i32_w]; rw [c12b0]) | skip)
     have H' := Aside0.mk H
     clear H
     go_wp2
     go_meet
     case rel => exact ⟨_, ((a0_0 == 2)), (by first | rfl | (simp; done) | (simp [*]; done)), H', ⟨by have := HJ1.out; first | omega | exact Nat.le_refl _⟩, ⟨bk_ BK106⟩, ⟨bl1_ HB GE106⟩⟩
   case rest =>
    clear HC10
    try clear c1
    try clear c2
    try clear p2
    try clear c5
    try clear c5b0
    try clear c5b1
    try clear c6
    try clear c6b0
    try clear c6b1
    try clear c12
    try clear c12b0
    try clear c12b1
    try clear hcz11_0 hcz11_1 hcz11_2 hcz11_3 hcz11_4 hcz11_5 hcz11_6
    try clear hcz4_0 hcz4_1 hcz4_2 hcz4_3 hcz4_4 hcz4_5 hcz4_6
    try clear hcz7_0 hcz7_1 hcz7_2 hcz7_3 hcz7_4 hcz7_5 hcz7_6
    try clear hcz8_0 hcz8_1 hcz8_2 hcz8_3 hcz8_4 hcz8_5 hcz8_6
    try clear hcz9_0 hcz9_1 hcz9_2 hcz9_3 hcz9_4 hcz9_5 hcz9_6
    try clear hfz11_0 hfz11_1 hfz11_2 hfz11_3 hfz11_4 hfz11_5 hfz11_6
    try clear hfz4_0 hfz4_1 hfz4_2 hfz4_3 hfz4_4 hfz4_5 hfz4_6
    try clear hfz7_0 hfz7_1 hfz7_2 hfz7_3 hfz7_4 hfz7_5 hfz7_6
    try clear hfz8_0 hfz8_1 hfz8_2 hfz8_3 hfz8_4 hfz8_5 hfz8_6
    try clear hfz9_0 hfz9_1 hfz9_2 hfz9_3 hfz9_4 hfz9_5 hfz9_6
    try clear p2
    obtain ⟨kq, x24_9, rfl, HA, HJ9, BK106, HB⟩ := hcut
    cases kq with
    | zero => exact absurd HA.out (by simp [pdu_Check.j1])
    | succ kj9 =>
     have H := HA.out
     clear HA
     simp only [pdu_Check.j1] at H
     by_cases c13 : x24_9 = true
     ·subst c13
      have H1 : (if x5_1 = true then (if (l0_3.length : Int) = 0 then ((pdu_within.f a0_2 1 2000).bind fun t107 => (if t107 = true then ((pdu_span.f a0_1 a0_2).bind fun t108 => (if t108 = true then (some 0) else (some 1))) else (some 1))) else (some 1)) else (some 1)) = some r := by rw [if_pos rfl] at H; exact H
      clear H
      have H := H1
      clear H1
      by_cases c14 : x5_1 = true
      ·subst c14
       have H1 : (if (l0_3.length : Int) = 0 then ((pdu_within.f a0_2 1 2000).bind fun t107 => (if t107 = true then ((pdu_span.f a0_1 a0_2).bind fun t108 => (if t108 = true then (some 0) else (some 1))) else (some 1))) else (some 1)) = some r := by rw [if_pos rfl] at H; exact H
       clear H
       have H := H1
       clear H1
       by_cases c15 : (l0_3.length : Int) = 0
       ·rw [if_pos c15] at H
        have c15b0 : ((l0_3.length : Int) == 0) = true := beq_iff_eq.mpr c15
        have c15b1 : ((l0_3.length : Int) != 0) = false := bne_eq_false_iff_eq.mpr c15
        clear c15
        replace H := Option.bind_eq_some_iff.mp H
        obtain ⟨t107, A160, H⟩ := H
        replace H : (if t107 = true then ((pdu_span.f a0_1 a0_2).bind fun t108 => (if t108 = true then (some 0) else (some 1))) else (some 1)) = some r := H
        have A16 := Aside0.mk A160
        clear A160
        by_cases c17 : t107 = true
        ·subst c17
         have H1 : ((pdu_span.f a0_1 a0_2).bind fun t108 => (if t108 = true then (some 0) else (some 1))) = some r := by rw [if_pos rfl] at H; exact H
         clear H
         have H := H1
         clear H1
         replace H := Option.bind_eq_some_iff.mp H
         obtain ⟨t108, A180, H⟩ := H
         replace H : (if t108 = true then (some 0) else (some 1)) = some r := H
         have A18 := Aside0.mk A180
         clear A180
         by_cases c19 : t108 = true
         ·subst c19
          have H1 : (some 0) = some r := by rw [if_pos rfl] at H; exact H
          clear H
          have H := H1
          clear H1
          obtain rfl := Option.some.inj H
          refine cz7_ BK106.out ?_; intro hcz20_0 hcz20_1 hcz20_2 hcz20_3 hcz20_4 hcz20_5 hcz20_6 hfz20_0 hfz20_1 hfz20_2 hfz20_3 hfz20_4 hfz20_5 hfz20_6
          go_wp2_with (first | (go_at_call 49; (with_reducible refine (pdu_within.calls a0_2 1 2000 true _ A16.out).mono ?_); rintro e w' ⟨rfl, ⟨nd, rfl⟩⟩) | (go_at_call 50; (with_reducible refine (pdu_span.calls a0_1 a0_2 true _ A18.out).mono ?_); rintro e w' ⟨rfl, ⟨nd, rfl⟩⟩))
          go_ret
          exact ⟨er_, bl1_ HB GE106⟩
         ·replace c19 := Bool.eq_false_iff.mpr c19
          subst c19
          have H1 : (some 1) = some r := by rw [if_neg (show ¬ (false = true) by decide)] at H; exact H
          clear H
          have H := H1
          clear H1
          obtain rfl := Option.some.inj H
          refine cz7_ BK106.out ?_; intro hcz21_0 hcz21_1 hcz21_2 hcz21_3 hcz21_4 hcz21_5 hcz21_6 hfz21_0 hfz21_1 hfz21_2 hfz21_3 hfz21_4 hfz21_5 hfz21_6
          go_wp2_with (first | (go_at_call 49; (with_reducible refine (pdu_within.calls a0_2 1 2000 true _ A16.out).mono ?_); rintro e w' ⟨rfl, ⟨nd, rfl⟩⟩) | (go_at_call 50; (with_reducible refine (pdu_span.calls a0_1 a0_2 false _ A18.out).mono ?_); rintro e w' ⟨rfl, ⟨nd, rfl⟩⟩))
          go_ret
          exact ⟨er_, bl1_ HB GE106⟩
        ·replace c17 := Bool.eq_false_iff.mpr c17
         subst c17
         have H1 : (some 1) = some r := by rw [if_neg (show ¬ (false = true) by decide)] at H; exact H
         clear H
         have H := H1
         clear H1
         obtain rfl := Option.some.inj H
         refine cz7_ BK106.out ?_; intro hcz22_0 hcz22_1 hcz22_2 hcz22_3 hcz22_4 hcz22_5 hcz22_6 hfz22_0 hfz22_1 hfz22_2 hfz22_3 hfz22_4 hfz22_5 hfz22_6
         go_wp2_with (first | (go_at_call 49; (with_reducible refine (pdu_within.calls a0_2 1 2000 false _ A16.out).mono ?_); rintro e w' ⟨rfl, ⟨nd, rfl⟩⟩))
         go_ret
         exact ⟨er_, bl1_ HB GE106⟩
       ·rw [if_neg c15] at H
        have c15b0 : ((l0_3.length : Int) == 0) = false := beq_eq_false_iff_ne.mpr c15
        have c15b1 : ((l0_3.length : Int) != 0) = true := bne_iff_ne.mpr c15
        have c15b2 : ¬ (l0_3 = []) := fun h_ => c15 (by rw [h_]; rfl)
        obtain rfl := Option.some.inj H
        go_wp2
        go_ret
        exact ⟨er_, bl1_ HB GE106⟩
      ·replace c14 := Bool.eq_false_iff.mpr c14
       subst c14
       have H1 : (some 1) = some r := by rw [if_neg (show ¬ (false = true) by decide)] at H; exact H
       clear H
       have H := H1
       clear H1
       obtain rfl := Option.some.inj H
       go_wp2
       go_ret
       exact ⟨er_, bl1_ HB GE106⟩
     ·replace c13 := Bool.eq_false_iff.mpr c13
      subst c13
      have H1 : (if a0_0 = 3 then (pdu_Check.j2 kj9 false (l0_3.length : Int) x5_1 a0_0 (a0_0 == 3) a0_0 a0_1 a0_2 l0_3 a0_4 a0_5 a0_6) else (pdu_Check.j2 kj9 false (l0_3.length : Int) x5_1 a0_0 (a0_0 == 4) a0_0 a0_1 a0_2 l0_3 a0_4 a0_5 a0_6)) = some r := by rw [if_neg (show ¬ (false = true) by decide)] at H; exact H
      clear H
      have H := H1
      clear H1
      have HC23 := Aside0.mk H
      clear H
      go_upto_if 44 with (fail)
      go_cut [44] (fun v44 wc => ∃ (kq : Nat) (x44_22 : Bool), v44 = .bool x44_22 ∧ Aside0 (pdu_Check.j2 kq false (l0_3.length : Int) x5_1 a0_0 x44_22 a0_0 a0_1 a0_2 l0_3 a0_4 a0_5 a0_6 = some r) ∧ Aside0 (kq ≤ kj9) ∧ Aside0 (wc.heap[gb106]? = some (.cells #[.int .i64 a0_0, .int .i64 a0_1, .int .i64 a0_2, (.slice A0_3 l0_3.length c0_3), .int .i64 a0_4, .int .i64 a0_5, .int .i64 a0_6] 24 (0, 0))) ∧ Aside0 (Below w.heap.size w wc))
      case first =>
       have H := HC23.out
       clear HC23
       by_cases c24 : a0_0 = 3
       ·rw [if_pos c24] at H
        have c24b0 : (a0_0 == 3) = true := beq_iff_eq.mpr c24
        have c24b1 : (a0_0 != 3) = false := bne_eq_false_iff_eq.mpr c24
        clear c24
        (first | rw [c24b0] | (simp only [i64_w, i32_w]; rw [c24b0]) | skip)
        have H' := Aside0.mk H
        clear H
        go_wp2
        go_meet
        case rel => exact ⟨_, ((a0_0 == 3)), (by first | rfl | (simp; done) | (simp [*]; done)), H', ⟨by have := HJ1.out; have := HJ9.out; first | omega | exact Nat.le_refl _⟩, ⟨bk_ BK106⟩, ⟨bl1_ HB GE106⟩⟩
       ·rw [if_neg c24] at H
        have c24b0 : (a0_0 == 3) = false := beq_eq_false_iff_ne.mpr c24
        have c24b1 : (a0_0 != 3) = true := bne_iff_ne.mpr c24
        (first | rw [c24b0] | (simp only [i64_w, i32_w]; rw [c24b0]) | skip)
        have H' := Aside0.mk H
        clear H
        go_wp2
        go_meet
        case rel => exact ⟨_, ((a0_0 == 4)), (by first | rfl | (simp; done) | (simp [*]; done)), H', ⟨by have := HJ1.out; have := HJ9.out; first | omega | exact Nat.le_refl _⟩, ⟨bk_ BK106⟩, ⟨bl1_ HB GE106⟩⟩
      case rest =>
       clear HC23
       try clear c1
       try clear c2
       try clear p2
       try clear c5
       try clear c5b0
       try clear c5b1
       try clear c6
       try clear c6b0
       try clear c6b1
       try clear c12
       try clear c12b0
       try clear c12b1
       try clear c13
       try clear c14
       try clear c15
       try clear c15b0
       try clear c15b1
       try clear c15b2
       try clear c17
       try clear c19
       try clear c24
       try clear c24b0
       try clear c24b1
       try clear hcz11_0 hcz11_1 hcz11_2 hcz11_3 hcz11_4 hcz11_5 hcz11_6
       try clear hcz20_0 hcz20_1 hcz20_2 hcz20_3 hcz20_4 hcz20_5 hcz20_6
       try clear hcz21_0 hcz21_1 hcz21_2 hcz21_3 hcz21_4 hcz21_5 hcz21_6
       try clear hcz22_0 hcz22_1 hcz22_2 hcz22_3 hcz22_4 hcz22_5 hcz22_6
       try clear hcz4_0 hcz4_1 hcz4_2 hcz4_3 hcz4_4 hcz4_5 hcz4_6
       try clear hcz7_0 hcz7_1 hcz7_2 hcz7_3 hcz7_4 hcz7_5 hcz7_6
       try clear hcz8_0 hcz8_1 hcz8_2 hcz8_3 hcz8_4 hcz8_5 hcz8_6
       try clear hcz9_0 hcz9_1 hcz9_2 hcz9_3 hcz9_4 hcz9_5 hcz9_6
       try clear hfz11_0 hfz11_1 hfz11_2 hfz11_3 hfz11_4 hfz11_5 hfz11_6
       try clear hfz20_0 hfz20_1 hfz20_2 hfz20_3 hfz20_4 hfz20_5 hfz20_6
       try clear hfz21_0 hfz21_1 hfz21_2 hfz21_3 hfz21_4 hfz21_5 hfz21_6
       try clear hfz22_0 hfz22_1 hfz22_2 hfz22_3 hfz22_4 hfz22_5 hfz22_6
       try clear hfz4_0 hfz4_1 hfz4_2 hfz4_3 hfz4_4 hfz4_5 hfz4_6
       try clear hfz7_0 hfz7_1 hfz7_2 hfz7_3 hfz7_4 hfz7_5 hfz7_6
       try clear hfz8_0 hfz8_1 hfz8_2 hfz8_3 hfz8_4 hfz8_5 hfz8_6
       try clear hfz9_0 hfz9_1 hfz9_2 hfz9_3 hfz9_4 hfz9_5 hfz9_6
       try clear p2
       obtain ⟨kq, x44_22, rfl, HA, HJ22, BK106, HB⟩ := hcut
       cases kq with
       | zero => exact absurd HA.out (by simp [pdu_Check.j2])
       | succ kj22 =>
        have H := HA.out
        clear HA
        simp only [pdu_Check.j2] at H
        by_cases c25 : x44_22 = true
        ·subst c25
         have H1 : (if x5_1 = true then (if (l0_3.length : Int) = 0 then ((pdu_within.f a0_2 1 125).bind fun t109 => (if t109 = true then ((pdu_span.f a0_1 a0_2).bind fun t110 => (if t110 = true then (some 0) else (some 1))) else (some 1))) else (some 1)) else (some 1)) = some r := by rw [if_pos rfl] at H; exact H
         clear H
         have H := H1
         clear H1
         by_cases c26 : x5_1 = true
         ·subst c26
          have H1 : (if (l0_3.length : Int) = 0 then ((pdu_within.f a0_2 1 125).bind fun t109 => (if t109 = true then ((pdu_span.f a0_1 a0_2).bind fun t110 => (if t110 = true then (some 0) else (some 1))) else (some 1))) else (some 1)) = some r := by rw [if_pos rfl] at H; exact H
          clear H
          have H := H1
          clear H1
          by_cases c27 : (l0_3.length : Int) = 0
          ·rw [if_pos c27] at H
           have c27b0 : ((l0_3.length : Int) == 0) = true := beq_iff_eq.mpr c27
           have c27b1 : ((l0_3.length : Int) != 0) = false := bne_eq_false_iff_eq.mpr c27
           clear c27
           replace H := Option.bind_eq_some_iff.mp H
           obtain ⟨t109, A280, H⟩ := H
           replace H : (if t109 = true then ((pdu_span.f a0_1 a0_2).bind fun t110 => (if t110 = true then (some 0) else (some 1))) else (some 1)) = some r := H
           have A28 := Aside0.mk A280
           clear A280
           by_cases c29 : t109 = true
           ·subst c29
            have H1 : ((pdu_span.f a0_1 a0_2).bind fun t110 => (if t110 = true then (some 0) else (some 1))) = some r := by rw [if_pos rfl] at H; exact H
            clear H
            have H := H1
            clear H1
            replace H := Option.bind_eq_some_iff.mp H
            obtain ⟨t110, A300, H⟩ := H
            replace H : (if t110 = true then (some 0) else (some 1)) = some r := H
            have A30 := Aside0.mk A300
            clear A300
            by_cases c31 : t110 = true
            ·subst c31
             have H1 : (some 0) = some r := by rw [if_pos rfl] at H; exact H
             clear H
             have H := H1
             clear H1
             obtain rfl := Option.some.inj H
             refine cz7_ BK106.out ?_; intro hcz32_0 hcz32_1 hcz32_2 hcz32_3 hcz32_4 hcz32_5 hcz32_6 hfz32_0 hfz32_1 hfz32_2 hfz32_3 hfz32_4 hfz32_5 hfz32_6
             go_wp2_with (first | (go_at_call 49; (with_reducible refine (pdu_within.calls a0_2 1 125 true _ A28.out).mono ?_); rintro e w' ⟨rfl, ⟨nd, rfl⟩⟩) | (go_at_call 50; (with_reducible refine (pdu_span.calls a0_1 a0_2 true _ A30.out).mono ?_); rintro e w' ⟨rfl, ⟨nd, rfl⟩⟩))
             go_ret
             exact ⟨er_, bl1_ HB GE106⟩
            ·replace c31 := Bool.eq_false_iff.mpr c31
             subst c31
             have H1 : (some 1) = some r := by rw [if_neg (show ¬ (false = true) by decide)] at H; exact H
             clear H
             have H := H1
             clear H1
             obtain rfl := Option.some.inj H
             refine cz7_ BK106.out ?_; intro hcz33_0 hcz33_1 hcz33_2 hcz33_3 hcz33_4 hcz33_5 hcz33_6 hfz33_0 hfz33_1 hfz33_2 hfz33_3 hfz33_4 hfz33_5 hfz33_6
             go_wp2_with (first | (go_at_call 49; (with_reducible refine (pdu_within.calls a0_2 1 125 true _ A28.out).mono ?_); rintro e w' ⟨rfl, ⟨nd, rfl⟩⟩) | (go_at_call 50; (with_reducible refine (pdu_span.calls a0_1 a0_2 false _ A30.out).mono ?_); rintro e w' ⟨rfl, ⟨nd, rfl⟩⟩))
             go_ret
             exact ⟨er_, bl1_ HB GE106⟩
           ·replace c29 := Bool.eq_false_iff.mpr c29
            subst c29
            have H1 : (some 1) = some r := by rw [if_neg (show ¬ (false = true) by decide)] at H; exact H
            clear H
            have H := H1
            clear H1
            obtain rfl := Option.some.inj H
            refine cz7_ BK106.out ?_; intro hcz34_0 hcz34_1 hcz34_2 hcz34_3 hcz34_4 hcz34_5 hcz34_6 hfz34_0 hfz34_1 hfz34_2 hfz34_3 hfz34_4 hfz34_5 hfz34_6
            go_wp2_with (first | (go_at_call 49; (with_reducible refine (pdu_within.calls a0_2 1 125 false _ A28.out).mono ?_); rintro e w' ⟨rfl, ⟨nd, rfl⟩⟩))
            go_ret
            exact ⟨er_, bl1_ HB GE106⟩
          ·rw [if_neg c27] at H
           have c27b0 : ((l0_3.length : Int) == 0) = false := beq_eq_false_iff_ne.mpr c27
           have c27b1 : ((l0_3.length : Int) != 0) = true := bne_iff_ne.mpr c27
           have c27b2 : ¬ (l0_3 = []) := fun h_ => c27 (by rw [h_]; rfl)
           obtain rfl := Option.some.inj H
           go_wp2
           go_ret
           exact ⟨er_, bl1_ HB GE106⟩
         ·replace c26 := Bool.eq_false_iff.mpr c26
          subst c26
          have H1 : (some 1) = some r := by rw [if_neg (show ¬ (false = true) by decide)] at H; exact H
          clear H
          have H := H1
          clear H1
          obtain rfl := Option.some.inj H
          go_wp2
          go_ret
          exact ⟨er_, bl1_ HB GE106⟩
        ·replace c25 := Bool.eq_false_iff.mpr c25
         subst c25
         have H1 : (if a0_0 = 5 then (if x5_1 = true then (if a0_2 = 0 then ((pdu_some.f kj22 l0_3 1 1 1).bind fun t111 => (if t111 = true then ((pdu_span.f a0_1 1).bind fun t112 => (if t112 = true then (some 0) else (some 1))) else (some 1))) else (some 1)) else (some 1)) else (if a0_0 = 6 then (if x5_1 = true then (if a0_2 = 0 then ((pdu_some.f kj22 l0_3 1 1 65535).bind fun t113 => (if t113 = true then ((pdu_span.f a0_1 1).bind fun t114 => (if t114 = true then (some 0) else (some 1))) else (some 1))) else (some 1)) else (some 1)) else (if a0_0 = 15 then (if x5_1 = true then (if a0_2 = (l0_3.length : Int) then ((pdu_some.f kj22 l0_3 1 1968 1).bind fun t115 => (if t115 = true then ((pdu_span.f a0_1 (l0_3.length : Int)).bind fun t116 => (if t116 = true then (some 0) else (some 1))) else (some 1))) else (some 1)) else (some 1)) else (if a0_0 = 16 then (if x5_1 = true then (if a0_2 = (l0_3.length : Int) then ((pdu_some.f kj22 l0_3 1 123 65535).bind fun t117 => (if t117 = true then ((pdu_span.f a0_1 (l0_3.length : Int)).bind fun t118 => (if t118 = true then (some 0) else (some 1))) else (some 1))) else (some 1)) else (some 1)) else (if a0_0 = 22 then (if (l0_3.length : Int) = 0 then (if a0_4 = 0 then (if a0_2 = 0 then ((pdu_span.f a0_1 1).bind fun t119 => (if t119 = true then ((pdu_all.f kj22 (([a0_5, a0_6] : List Int)) 65535).bind fun t123 => (if t123 = true then (some 0) else (some 1))) else (some 1))) else (some 1)) else (some 1)) else (some 1)) else (if a0_0 = 23 then (if a0_5 = 0 then (if a0_6 = 0 then ((pdu_within.f a0_2 1 125).bind fun t124 => (if t124 = true then ((pdu_span.f a0_1 a0_2).bind fun t125 => (if t125 = true then ((pdu_some.f kj22 l0_3 1 121 65535).bind fun t126 => (if t126 = true then ((pdu_span.f a0_4 (l0_3.length : Int)).bind fun t127 => (if t127 = true then (some 0) else (some 1))) else (some 1))) else (some 1))) else (some 1))) else (some 1)) else (some 1)) else (if false = true then (some 0) else (some 1)))))))) = some r := by rw [if_neg (show ¬ (false = true) by decide)] at H; exact H
         clear H
         have H := H1
         clear H1
         by_cases c35 : a0_0 = 5
         ·rw [if_pos c35] at H
          have c35b0 : (a0_0 == 5) = true := beq_iff_eq.mpr c35
          have c35b1 : (a0_0 != 5) = false := bne_eq_false_iff_eq.mpr c35
          clear c35
          by_cases c36 : x5_1 = true
          ·subst c36
           have H1 : (if a0_2 = 0 then ((pdu_some.f kj22 l0_3 1 1 1).bind fun t111 => (if t111 = true then ((pdu_span.f a0_1 1).bind fun t112 => (if t112 = true then (some 0) else (some 1))) else (some 1))) else (some 1)) = some r := by rw [if_pos rfl] at H; exact H
           clear H
           have H := H1
           clear H1
           by_cases c37 : a0_2 = 0
           ·rw [if_pos c37] at H
            have c37b0 : (a0_2 == 0) = true := beq_iff_eq.mpr c37
            have c37b1 : (a0_2 != 0) = false := bne_eq_false_iff_eq.mpr c37
            clear c37
            replace H := Option.bind_eq_some_iff.mp H
            obtain ⟨t111, A380, H⟩ := H
            replace H : (if t111 = true then ((pdu_span.f a0_1 1).bind fun t112 => (if t112 = true then (some 0) else (some 1))) else (some 1)) = some r := H
            have A38 := Aside0.mk A380
            clear A380
            by_cases c39 : t111 = true
            ·subst c39
             have H1 : ((pdu_span.f a0_1 1).bind fun t112 => (if t112 = true then (some 0) else (some 1))) = some r := by rw [if_pos rfl] at H; exact H
             clear H
             have H := H1
             clear H1
             replace H := Option.bind_eq_some_iff.mp H
             obtain ⟨t112, A400, H⟩ := H
             replace H : (if t112 = true then (some 0) else (some 1)) = some r := H
             have A40 := Aside0.mk A400
             clear A400
             by_cases c41 : t112 = true
             ·subst c41
              have H1 : (some 0) = some r := by rw [if_pos rfl] at H; exact H
              clear H
              have H := H1
              clear H1
              obtain rfl := Option.some.inj H
              refine cz7_ BK106.out ?_; intro hcz42_0 hcz42_1 hcz42_2 hcz42_3 hcz42_4 hcz42_5 hcz42_6 hfz42_0 hfz42_1 hfz42_2 hfz42_3 hfz42_4 hfz42_5 hfz42_6
              go_wp2_with (first | (go_at_call 51; (with_reducible refine (pdu_some.calls kj22 _ _ l0_3 1 1 1 true _ ?side1 ?side2 A38.out).mono ?_); (case side1 => exact sc_ (Kd.C_below HR0_3.out HB.out)); (case side2 => exact HC0_3.out); rintro e w' ⟨rfl, ⟨nd, rfl⟩⟩) | (go_at_call 50; (with_reducible refine (pdu_span.calls a0_1 1 true _ A40.out).mono ?_); rintro e w' ⟨rfl, ⟨nd, rfl⟩⟩))
              go_ret
              exact ⟨er_, bl1_ HB GE106⟩
             ·replace c41 := Bool.eq_false_iff.mpr c41
              subst c41
              have H1 : (some 1) = some r := by rw [if_neg (show ¬ (false = true) by decide)] at H; exact H
              clear H
              have H := H1
              clear H1
              obtain rfl := Option.some.inj H
              refine cz7_ BK106.out ?_; intro hcz43_0 hcz43_1 hcz43_2 hcz43_3 hcz43_4 hcz43_5 hcz43_6 hfz43_0 hfz43_1 hfz43_2 hfz43_3 hfz43_4 hfz43_5 hfz43_6
              go_wp2_with (first | (go_at_call 51; (with_reducible refine (pdu_some.calls kj22 _ _ l0_3 1 1 1 true _ ?side1 ?side2 A38.out).mono ?_); (case side1 => exact sc_ (Kd.C_below HR0_3.out HB.out)); (case side2 => exact HC0_3.out); rintro e w' ⟨rfl, ⟨nd, rfl⟩⟩) | (go_at_call 50; (with_reducible refine (pdu_span.calls a0_1 1 false _ A40.out).mono ?_); rintro e w' ⟨rfl, ⟨nd, rfl⟩⟩))
              go_ret
              exact ⟨er_, bl1_ HB GE106⟩
            ·replace c39 := Bool.eq_false_iff.mpr c39
             subst c39
             have H1 : (some 1) = some r := by rw [if_neg (show ¬ (false = true) by decide)] at H; exact H
             clear H
             have H := H1
             clear H1
             obtain rfl := Option.some.inj H
             refine cz7_ BK106.out ?_; intro hcz44_0 hcz44_1 hcz44_2 hcz44_3 hcz44_4 hcz44_5 hcz44_6 hfz44_0 hfz44_1 hfz44_2 hfz44_3 hfz44_4 hfz44_5 hfz44_6
             go_wp2_with (first | (go_at_call 51; (with_reducible refine (pdu_some.calls kj22 _ _ l0_3 1 1 1 false _ ?side1 ?side2 A38.out).mono ?_); (case side1 => exact sc_ (Kd.C_below HR0_3.out HB.out)); (case side2 => exact HC0_3.out); rintro e w' ⟨rfl, ⟨nd, rfl⟩⟩))
             go_ret
             exact ⟨er_, bl1_ HB GE106⟩
           ·rw [if_neg c37] at H
            have c37b0 : (a0_2 == 0) = false := beq_eq_false_iff_ne.mpr c37
            have c37b1 : (a0_2 != 0) = true := bne_iff_ne.mpr c37
            obtain rfl := Option.some.inj H
            refine cz7_ BK106.out ?_; intro hcz45_0 hcz45_1 hcz45_2 hcz45_3 hcz45_4 hcz45_5 hcz45_6 hfz45_0 hfz45_1 hfz45_2 hfz45_3 hfz45_4 hfz45_5 hfz45_6
            go_wp2
            go_ret
            exact ⟨er_, bl1_ HB GE106⟩
          ·replace c36 := Bool.eq_false_iff.mpr c36
           subst c36
           have H1 : (some 1) = some r := by rw [if_neg (show ¬ (false = true) by decide)] at H; exact H
           clear H
           have H := H1
           clear H1
           obtain rfl := Option.some.inj H
           go_wp2
           go_ret
           exact ⟨er_, bl1_ HB GE106⟩
         ·rw [if_neg c35] at H
          have c35b0 : (a0_0 == 5) = false := beq_eq_false_iff_ne.mpr c35
          have c35b1 : (a0_0 != 5) = true := bne_iff_ne.mpr c35
          by_cases c46 : a0_0 = 6
          ·rw [if_pos c46] at H
           have c46b0 : (a0_0 == 6) = true := beq_iff_eq.mpr c46
           have c46b1 : (a0_0 != 6) = false := bne_eq_false_iff_eq.mpr c46
           clear c46
           by_cases c47 : x5_1 = true
           ·subst c47
            have H1 : (if a0_2 = 0 then ((pdu_some.f kj22 l0_3 1 1 65535).bind fun t113 => (if t113 = true then ((pdu_span.f a0_1 1).bind fun t114 => (if t114 = true then (some 0) else (some 1))) else (some 1))) else (some 1)) = some r := by rw [if_pos rfl] at H; exact H
            clear H
            have H := H1
            clear H1
            by_cases c48 : a0_2 = 0
            ·rw [if_pos c48] at H
             have c48b0 : (a0_2 == 0) = true := beq_iff_eq.mpr c48
             have c48b1 : (a0_2 != 0) = false := bne_eq_false_iff_eq.mpr c48
             clear c48
             replace H := Option.bind_eq_some_iff.mp H
             obtain ⟨t113, A490, H⟩ := H
             replace H : (if t113 = true then ((pdu_span.f a0_1 1).bind fun t114 => (if t114 = true then (some 0) else (some 1))) else (some 1)) = some r := H
             have A49 := Aside0.mk A490
             clear A490
             by_cases c50 : t113 = true
             ·subst c50
              have H1 : ((pdu_span.f a0_1 1).bind fun t114 => (if t114 = true then (some 0) else (some 1))) = some r := by rw [if_pos rfl] at H; exact H
              clear H
              have H := H1
              clear H1
              replace H := Option.bind_eq_some_iff.mp H
              obtain ⟨t114, A510, H⟩ := H
              replace H : (if t114 = true then (some 0) else (some 1)) = some r := H
              have A51 := Aside0.mk A510
              clear A510
              by_cases c52 : t114 = true
              ·subst c52
               have H1 : (some 0) = some r := by rw [if_pos rfl] at H; exact H
               clear H
               have H := H1
               clear H1
               obtain rfl := Option.some.inj H
               refine cz7_ BK106.out ?_; intro hcz53_0 hcz53_1 hcz53_2 hcz53_3 hcz53_4 hcz53_5 hcz53_6 hfz53_0 hfz53_1 hfz53_2 hfz53_3 hfz53_4 hfz53_5 hfz53_6
               go_wp2_with (first | (go_at_call 51; (with_reducible refine (pdu_some.calls kj22 _ _ l0_3 1 1 65535 true _ ?side1 ?side2 A49.out).mono ?_); (case side1 => exact sc_ (Kd.C_below HR0_3.out HB.out)); (case side2 => exact HC0_3.out); rintro e w' ⟨rfl, ⟨nd, rfl⟩⟩) | (go_at_call 50; (with_reducible refine (pdu_span.calls a0_1 1 true _ A51.out).mono ?_); rintro e w' ⟨rfl, ⟨nd, rfl⟩⟩))
               go_ret
               exact ⟨er_, bl1_ HB GE106⟩
              ·replace c52 := Bool.eq_false_iff.mpr c52
               subst c52
               have H1 : (some 1) = some r := by rw [if_neg (show ¬ (false = true) by decide)] at H; exact H
               clear H
               have H := H1
               clear H1
               obtain rfl := Option.some.inj H
               refine cz7_ BK106.out ?_; intro hcz54_0 hcz54_1 hcz54_2 hcz54_3 hcz54_4 hcz54_5 hcz54_6 hfz54_0 hfz54_1 hfz54_2 hfz54_3 hfz54_4 hfz54_5 hfz54_6
               go_wp2_with (first | (go_at_call 51; (with_reducible refine (pdu_some.calls kj22 _ _ l0_3 1 1 65535 true _ ?side1 ?side2 A49.out).mono ?_); (case side1 => exact sc_ (Kd.C_below HR0_3.out HB.out)); (case side2 => exact HC0_3.out); rintro e w' ⟨rfl, ⟨nd, rfl⟩⟩) | (go_at_call 50; (with_reducible refine (pdu_span.calls a0_1 1 false _ A51.out).mono ?_); rintro e w' ⟨rfl, ⟨nd, rfl⟩⟩))
               go_ret
               exact ⟨er_, bl1_ HB GE106⟩
             ·replace c50 := Bool.eq_false_iff.mpr c50
              subst c50
              have H1 : (some 1) = some r := by rw [if_neg (show ¬ (false = true) by decide)] at H; exact H
              clear H
              have H := H1
              clear H1
              obtain rfl := Option.some.inj H
              refine cz7_ BK106.out ?_; intro hcz55_0 hcz55_1 hcz55_2 hcz55_3 hcz55_4 hcz55_5 hcz55_6 hfz55_0 hfz55_1 hfz55_2 hfz55_3 hfz55_4 hfz55_5 hfz55_6
              go_wp2_with (first | (go_at_call 51; (with_reducible refine (pdu_some.calls kj22 _ _ l0_3 1 1 65535 false _ ?side1 ?side2 A49.out).mono ?_); (case side1 => exact sc_ (Kd.C_below HR0_3.out HB.out)); (case side2 => exact HC0_3.out); rintro e w' ⟨rfl, ⟨nd, rfl⟩⟩))
              go_ret
              exact ⟨er_, bl1_ HB GE106⟩
            ·rw [if_neg c48] at H
             have c48b0 : (a0_2 == 0) = false := beq_eq_false_iff_ne.mpr c48
             have c48b1 : (a0_2 != 0) = true := bne_iff_ne.mpr c48
             obtain rfl := Option.some.inj H
             refine cz7_ BK106.out ?_; intro hcz56_0 hcz56_1 hcz56_2 hcz56_3 hcz56_4 hcz56_5 hcz56_6 hfz56_0 hfz56_1 hfz56_2 hfz56_3 hfz56_4 hfz56_5 hfz56_6
             go_wp2
             go_ret
             exact ⟨er_, bl1_ HB GE106⟩
           ·replace c47 := Bool.eq_false_iff.mpr c47
            subst c47
            have H1 : (some 1) = some r := by rw [if_neg (show ¬ (false = true) by decide)] at H; exact H
            clear H
            have H := H1
            clear H1
            obtain rfl := Option.some.inj H
            go_wp2
            go_ret
            exact ⟨er_, bl1_ HB GE106⟩
          ·rw [if_neg c46] at H
           have c46b0 : (a0_0 == 6) = false := beq_eq_false_iff_ne.mpr c46
           have c46b1 : (a0_0 != 6) = true := bne_iff_ne.mpr c46
           by_cases c57 : a0_0 = 15
           ·rw [if_pos c57] at H
            have c57b0 : (a0_0 == 15) = true := beq_iff_eq.mpr c57
            have c57b1 : (a0_0 != 15) = false := bne_eq_false_iff_eq.mpr c57
            clear c57
            by_cases c58 : x5_1 = true
            ·subst c58
             have H1 : (if a0_2 = (l0_3.length : Int) then ((pdu_some.f kj22 l0_3 1 1968 1).bind fun t115 => (if t115 = true then ((pdu_span.f a0_1 (l0_3.length : Int)).bind fun t116 => (if t116 = true then (some 0) else (some 1))) else (some 1))) else (some 1)) = some r := by rw [if_pos rfl] at H; exact H
             clear H
             have H := H1
             clear H1
             by_cases c59 : a0_2 = (l0_3.length : Int)
             ·rw [if_pos c59] at H
              have c59b0 : (a0_2 == (l0_3.length : Int)) = true := beq_iff_eq.mpr c59
              have c59b1 : (a0_2 != (l0_3.length : Int)) = false := bne_eq_false_iff_eq.mpr c59
              clear c59
              replace H := Option.bind_eq_some_iff.mp H
              obtain ⟨t115, A600, H⟩ := H
              replace H : (if t115 = true then ((pdu_span.f a0_1 (l0_3.length : Int)).bind fun t116 => (if t116 = true then (some 0) else (some 1))) else (some 1)) = some r := H
              have A60 := Aside0.mk A600
              clear A600
              by_cases c61 : t115 = true
              ·subst c61
               have H1 : ((pdu_span.f a0_1 (l0_3.length : Int)).bind fun t116 => (if t116 = true then (some 0) else (some 1))) = some r := by rw [if_pos rfl] at H; exact H
               clear H
               have H := H1
               clear H1
               replace H := Option.bind_eq_some_iff.mp H
               obtain ⟨t116, A620, H⟩ := H
               replace H : (if t116 = true then (some 0) else (some 1)) = some r := H
               have A62 := Aside0.mk A620
               clear A620
               by_cases c63 : t116 = true
               ·subst c63
                have H1 : (some 0) = some r := by rw [if_pos rfl] at H; exact H
                clear H
                have H := H1
                clear H1
                obtain rfl := Option.some.inj H
                refine cz7_ BK106.out ?_; intro hcz64_0 hcz64_1 hcz64_2 hcz64_3 hcz64_4 hcz64_5 hcz64_6 hfz64_0 hfz64_1 hfz64_2 hfz64_3 hfz64_4 hfz64_5 hfz64_6
                go_wp2_with (first | (go_at_call 51; (with_reducible refine (pdu_some.calls kj22 _ _ l0_3 1 1968 1 true _ ?side1 ?side2 A60.out).mono ?_); (case side1 => exact sc_ (Kd.C_below HR0_3.out HB.out)); (case side2 => exact HC0_3.out); rintro e w' ⟨rfl, ⟨nd, rfl⟩⟩) | (go_at_call 50; (with_reducible refine (pdu_span.calls a0_1 (l0_3.length : Int) true _ A62.out).mono ?_); rintro e w' ⟨rfl, ⟨nd, rfl⟩⟩))
                go_ret
                exact ⟨er_, bl1_ HB GE106⟩
               ·replace c63 := Bool.eq_false_iff.mpr c63
                subst c63
                have H1 : (some 1) = some r := by rw [if_neg (show ¬ (false = true) by decide)] at H; exact H
                clear H
                have H := H1
                clear H1
                obtain rfl := Option.some.inj H
                refine cz7_ BK106.out ?_; intro hcz65_0 hcz65_1 hcz65_2 hcz65_3 hcz65_4 hcz65_5 hcz65_6 hfz65_0 hfz65_1 hfz65_2 hfz65_3 hfz65_4 hfz65_5 hfz65_6
                go_wp2_with (first | (go_at_call 51; (with_reducible refine (pdu_some.calls kj22 _ _ l0_3 1 1968 1 true _ ?side1 ?side2 A60.out).mono ?_); (case side1 => exact sc_ (Kd.C_below HR0_3.out HB.out)); (case side2 => exact HC0_3.out); rintro e w' ⟨rfl, ⟨nd, rfl⟩⟩) | (go_at_call 50; (with_reducible refine (pdu_span.calls a0_1 (l0_3.length : Int) false _ A62.out).mono ?_); rintro e w' ⟨rfl, ⟨nd, rfl⟩⟩))
                go_ret
                exact ⟨er_, bl1_ HB GE106⟩
              ·replace c61 := Bool.eq_false_iff.mpr c61
               subst c61
               have H1 : (some 1) = some r := by rw [if_neg (show ¬ (false = true) by decide)] at H; exact H
               clear H
               have H := H1
               clear H1
               obtain rfl := Option.some.inj H
               refine cz7_ BK106.out ?_; intro hcz66_0 hcz66_1 hcz66_2 hcz66_3 hcz66_4 hcz66_5 hcz66_6 hfz66_0 hfz66_1 hfz66_2 hfz66_3 hfz66_4 hfz66_5 hfz66_6
               go_wp2_with (first | (go_at_call 51; (with_reducible refine (pdu_some.calls kj22 _ _ l0_3 1 1968 1 false _ ?side1 ?side2 A60.out).mono ?_); (case side1 => exact sc_ (Kd.C_below HR0_3.out HB.out)); (case side2 => exact HC0_3.out); rintro e w' ⟨rfl, ⟨nd, rfl⟩⟩))
               go_ret
               exact ⟨er_, bl1_ HB GE106⟩
             ·rw [if_neg c59] at H
              have c59b0 : (a0_2 == (l0_3.length : Int)) = false := beq_eq_false_iff_ne.mpr c59
              have c59b1 : (a0_2 != (l0_3.length : Int)) = true := bne_iff_ne.mpr c59
              obtain rfl := Option.some.inj H
              refine cz7_ BK106.out ?_; intro hcz67_0 hcz67_1 hcz67_2 hcz67_3 hcz67_4 hcz67_5 hcz67_6 hfz67_0 hfz67_1 hfz67_2 hfz67_3 hfz67_4 hfz67_5 hfz67_6
              go_wp2
              go_ret
              exact ⟨er_, bl1_ HB GE106⟩
            ·replace c58 := Bool.eq_false_iff.mpr c58
             subst c58
             have H1 : (some 1) = some r := by rw [if_neg (show ¬ (false = true) by decide)] at H; exact H
             clear H
             have H := H1
             clear H1
             obtain rfl := Option.some.inj H
             go_wp2
             go_ret
             exact ⟨er_, bl1_ HB GE106⟩
           ·rw [if_neg c57] at H
            have c57b0 : (a0_0 == 15) = false := beq_eq_false_iff_ne.mpr c57
            have c57b1 : (a0_0 != 15) = true := bne_iff_ne.mpr c57
            by_cases c68 : a0_0 = 16
            ·rw [if_pos c68] at H
             have c68b0 : (a0_0 == 16) = true := beq_iff_eq.mpr c68
             have c68b1 : (a0_0 != 16) = false := bne_eq_false_iff_eq.mpr c68
             clear c68
             by_cases c69 : x5_1 = true
             ·subst c69
              have H1 : (if a0_2 = (l0_3.length : Int) then ((pdu_some.f kj22 l0_3 1 123 65535).bind fun t117 => (if t117 = true then ((pdu_span.f a0_1 (l0_3.length : Int)).bind fun t118 => (if t118 = true then (some 0) else (some 1))) else (some 1))) else (some 1)) = some r := by rw [if_pos rfl] at H; exact H
              clear H
              have H := H1
              clear H1
              by_cases c70 : a0_2 = (l0_3.length : Int)
              ·rw [if_pos c70] at H
               have c70b0 : (a0_2 == (l0_3.length : Int)) = true := beq_iff_eq.mpr c70
               have c70b1 : (a0_2 != (l0_3.length : Int)) = false := bne_eq_false_iff_eq.mpr c70
               clear c70
               replace H := Option.bind_eq_some_iff.mp H
               obtain ⟨t117, A710, H⟩ := H
               replace H : (if t117 = true then ((pdu_span.f a0_1 (l0_3.length : Int)).bind fun t118 => (if t118 = true then (some 0) else (some 1))) else (some 1)) = some r := H
               have A71 := Aside0.mk A710
               clear A710
               by_cases c72 : t117 = true
               ·subst c72
                have H1 : ((pdu_span.f a0_1 (l0_3.length : Int)).bind fun t118 => (if t118 = true then (some 0) else (some 1))) = some r := by rw [if_pos rfl] at H; exact H
                clear H
                have H := H1
                clear H1
                replace H := Option.bind_eq_some_iff.mp H
                obtain ⟨t118, A730, H⟩ := H
                replace H : (if t118 = true then (some 0) else (some 1)) = some r := H
                have A73 := Aside0.mk A730
                clear A730
                by_cases c74 : t118 = true
                ·subst c74
                 have H1 : (some 0) = some r := by rw [if_pos rfl] at H; exact H
                 clear H
                 have H := H1
                 clear H1
                 obtain rfl := Option.some.inj H
                 refine cz7_ BK106.out ?_; intro hcz75_0 hcz75_1 hcz75_2 hcz75_3 hcz75_4 hcz75_5 hcz75_6 hfz75_0 hfz75_1 hfz75_2 hfz75_3 hfz75_4 hfz75_5 hfz75_6
                 go_wp2_with (first | (go_at_call 51; (with_reducible refine (pdu_some.calls kj22 _ _ l0_3 1 123 65535 true _ ?side1 ?side2 A71.out).mono ?_); (case side1 => exact sc_ (Kd.C_below HR0_3.out HB.out)); (case side2 => exact HC0_3.out); rintro e w' ⟨rfl, ⟨nd, rfl⟩⟩) | (go_at_call 50; (with_reducible refine (pdu_span.calls a0_1 (l0_3.length : Int) true _ A73.out).mono ?_); rintro e w' ⟨rfl, ⟨nd, rfl⟩⟩))
                 go_ret
                 exact ⟨er_, bl1_ HB GE106⟩
                ·replace c74 := Bool.eq_false_iff.mpr c74
                 subst c74
                 have H1 : (some 1) = some r := by rw [if_neg (show ¬ (false = true) by decide)] at H; exact H
                 clear H
                 have H := H1
                 clear H1
                 obtain rfl := Option.some.inj H
                 refine cz7_ BK106.out ?_; intro hcz76_0 hcz76_1 hcz76_2 hcz76_3 hcz76_4 hcz76_5 hcz76_6 hfz76_0 hfz76_1 hfz76_2 hfz76_3 hfz76_4 hfz76_5 hfz76_6
                 go_wp2_with (first | (go_at_call 51; (with_reducible refine (pdu_some.calls kj22 _ _ l0_3 1 123 65535 true _ ?side1 ?side2 A71.out).mono ?_); (case side1 => exact sc_ (Kd.C_below HR0_3.out HB.out)); (case side2 => exact HC0_3.out); rintro e w' ⟨rfl, ⟨nd, rfl⟩⟩) | (go_at_call 50; (with_reducible refine (pdu_span.calls a0_1 (l0_3.length : Int) false _ A73.out).mono ?_); rintro e w' ⟨rfl, ⟨nd, rfl⟩⟩))
                 go_ret
                 exact ⟨er_, bl1_ HB GE106⟩
               ·replace c72 := Bool.eq_false_iff.mpr c72
                subst c72
                have H1 : (some 1) = some r := by rw [if_neg (show ¬ (false = true) by decide)] at H; exact H
                clear H
                have H := H1
                clear H1
                obtain rfl := Option.some.inj H
                refine cz7_ BK106.out ?_; intro hcz77_0 hcz77_1 hcz77_2 hcz77_3 hcz77_4 hcz77_5 hcz77_6 hfz77_0 hfz77_1 hfz77_2 hfz77_3 hfz77_4 hfz77_5 hfz77_6
                go_wp2_with (first | (go_at_call 51; (with_reducible refine (pdu_some.calls kj22 _ _ l0_3 1 123 65535 false _ ?side1 ?side2 A71.out).mono ?_); (case side1 => exact sc_ (Kd.C_below HR0_3.out HB.out)); (case side2 => exact HC0_3.out); rintro e w' ⟨rfl, ⟨nd, rfl⟩⟩))
                go_ret
                exact ⟨er_, bl1_ HB GE106⟩
              ·rw [if_neg c70] at H
               have c70b0 : (a0_2 == (l0_3.length : Int)) = false := beq_eq_false_iff_ne.mpr c70
               have c70b1 : (a0_2 != (l0_3.length : Int)) = true := bne_iff_ne.mpr c70
               obtain rfl := Option.some.inj H
               refine cz7_ BK106.out ?_; intro hcz78_0 hcz78_1 hcz78_2 hcz78_3 hcz78_4 hcz78_5 hcz78_6 hfz78_0 hfz78_1 hfz78_2 hfz78_3 hfz78_4 hfz78_5 hfz78_6
               go_wp2
               go_ret
               exact ⟨er_, bl1_ HB GE106⟩
             ·replace c69 := Bool.eq_false_iff.mpr c69
              subst c69
              have H1 : (some 1) = some r := by rw [if_neg (show ¬ (false = true) by decide)] at H; exact H
              clear H
              have H := H1
              clear H1
              obtain rfl := Option.some.inj H
              go_wp2
              go_ret
              exact ⟨er_, bl1_ HB GE106⟩
            ·rw [if_neg c68] at H
             have c68b0 : (a0_0 == 16) = false := beq_eq_false_iff_ne.mpr c68
             have c68b1 : (a0_0 != 16) = true := bne_iff_ne.mpr c68
             by_cases c79 : a0_0 = 22
             ·rw [if_pos c79] at H
              have c79b0 : (a0_0 == 22) = true := beq_iff_eq.mpr c79
              have c79b1 : (a0_0 != 22) = false := bne_eq_false_iff_eq.mpr c79
              clear c79
              by_cases c80 : (l0_3.length : Int) = 0
              ·rw [if_pos c80] at H
               have c80b0 : ((l0_3.length : Int) == 0) = true := beq_iff_eq.mpr c80
               have c80b1 : ((l0_3.length : Int) != 0) = false := bne_eq_false_iff_eq.mpr c80
               clear c80
               by_cases c81 : a0_4 = 0
               ·rw [if_pos c81] at H
                have c81b0 : (a0_4 == 0) = true := beq_iff_eq.mpr c81
                have c81b1 : (a0_4 != 0) = false := bne_eq_false_iff_eq.mpr c81
                clear c81
                by_cases c82 : a0_2 = 0
                ·rw [if_pos c82] at H
                 have c82b0 : (a0_2 == 0) = true := beq_iff_eq.mpr c82
                 have c82b1 : (a0_2 != 0) = false := bne_eq_false_iff_eq.mpr c82
                 clear c82
                 replace H := Option.bind_eq_some_iff.mp H
                 obtain ⟨t119, A830, H⟩ := H
                 replace H : (if t119 = true then ((pdu_all.f kj22 (([a0_5, a0_6] : List Int)) 65535).bind fun t123 => (if t123 = true then (some 0) else (some 1))) else (some 1)) = some r := H
                 have A83 := Aside0.mk A830
                 clear A830
                 by_cases c84 : t119 = true
                 ·subst c84
                  have H1 : ((pdu_all.f kj22 (([a0_5, a0_6] : List Int)) 65535).bind fun t123 => (if t123 = true then (some 0) else (some 1))) = some r := by rw [if_pos rfl] at H; exact H
                  clear H
                  have H := H1
                  clear H1
                  obtain ⟨y120, hy120⟩ : ∃ y_ : List Int, y_ = (([a0_5, a0_6] : List Int)) := ⟨_, rfl⟩
                  replace H : ((pdu_all.f kj22 y120 65535).bind fun t123 => (if t123 = true then (some 0) else (some 1))) = some r := by first | (rw [hy120]; with_reducible exact H) | (have H2_ := (Option.bind_some _ _).symm.trans H; rw [hy120]; with_reducible exact H2_) | (have H2_ := (Option.bind_some _ _).symm.trans H; with_reducible exact H2_) | with_reducible exact H | (rw [hy120]; exact H) | exact H
                  have Ny120 := Aside0.mk hy120
                  clear hy120
                  replace H := Option.bind_eq_some_iff.mp H
                  obtain ⟨t123, A850, H⟩ := H
                  replace H : (if t123 = true then (some 0) else (some 1)) = some r := H
                  have A85 := Aside0.mk A850
                  clear A850
                  by_cases c86 : t123 = true
                  ·subst c86
                   have H1 : (some 0) = some r := by rw [if_pos rfl] at H; exact H
                   clear H
                   have H := H1
                   clear H1
                   obtain rfl := Option.some.inj H
                   refine cz7_ BK106.out ?_; intro hcz87_0 hcz87_1 hcz87_2 hcz87_3 hcz87_4 hcz87_5 hcz87_6 hfz87_0 hfz87_1 hfz87_2 hfz87_3 hfz87_4 hfz87_5 hfz87_6
                   go_wp2_with (first | (go_at_call 50; (with_reducible refine (pdu_span.calls a0_1 1 true _ A83.out).mono ?_); rintro e w' ⟨rfl, ⟨nd, rfl⟩⟩) | ((with_reducible refine gate_dst (N := 164) rfl ?_); (try (refine gate_guard (by rfl) ?_; dsimp only)); refine Kd.R_lit (Kd.int .i64) _ 3 ?hg (N := 164) ?hd (xs := ([a0_5, a0_6] : List Int)) (inner := [.int .i64 a0_5, .int .i64 a0_6]) (ok := fun _ => True) (okp := fun _ => True) ?hr ?hp (fun _ hk => hk) trivial (Below.refl _ _) (Nat.le_refl _) (by simp) ?_; (case hd => rfl); (case hg => rfl); (case hr => first | (go_simp; done) | (go_simp; rfl)); (case hp => exact (Reps.one (show Kd.M (Kd.int .i64) _ _ _ a0_5 [.int .i64 a0_5] from rfl) (Reps.one (show Kd.M (Kd.int .i64) _ _ _ a0_6 [.int .i64 a0_6] from rfl) (Reps.none _ _)))); intro v121 w88 ho89 hb hg_ hnew_; clear hg_ hnew_; (first | rw [← Ny120.out] at ho89 | (simp only [Int.reduceToNat] at ho89; rw [← Ny120.out] at ho89)); have n0_ := Aside0.mk (Kd.R_lower ho89 (below_size (bl1_ HB GE106))); have n1_ := Aside0.mk (blk_below (g := gb106) (bk_ BK106) hb); have n2_ := Aside0.mk (below_step (bl1_ HB GE106) hb); clear BK106; clear HB; have HO122 := n0_; have BK106 := n1_; have HB := n2_; clear n0_ n1_ n2_; clear hb ho89; obtain ⟨Ao90, co90, eo90⟩ := Kd.R_slice HO122.out; subst eo90) | (go_at_call 52; (with_reducible refine (pdu_all.calls kj22 _ _ y120 65535 true _ ?side1 ?side2 A85.out).mono ?_); (case side1 => exact sc_ (Kd.R_reads' HO122.out).2.2); (case side2 => exact (Kd.R_reads' HO122.out).2.1); rintro e w' ⟨rfl, ⟨nd, rfl⟩⟩))
                   go_ret
                   exact ⟨er_, bl1_ HB GE106⟩
                  ·replace c86 := Bool.eq_false_iff.mpr c86
                   subst c86
                   have H1 : (some 1) = some r := by rw [if_neg (show ¬ (false = true) by decide)] at H; exact H
                   clear H
                   have H := H1
                   clear H1
                   obtain rfl := Option.some.inj H
                   refine cz7_ BK106.out ?_; intro hcz91_0 hcz91_1 hcz91_2 hcz91_3 hcz91_4 hcz91_5 hcz91_6 hfz91_0 hfz91_1 hfz91_2 hfz91_3 hfz91_4 hfz91_5 hfz91_6
                   go_wp2_with (first | (go_at_call 50; (with_reducible refine (pdu_span.calls a0_1 1 true _ A83.out).mono ?_); rintro e w' ⟨rfl, ⟨nd, rfl⟩⟩) | ((with_reducible refine gate_dst (N := 164) rfl ?_); (try (refine gate_guard (by rfl) ?_; dsimp only)); refine Kd.R_lit (Kd.int .i64) _ 3 ?hg (N := 164) ?hd (xs := ([a0_5, a0_6] : List Int)) (inner := [.int .i64 a0_5, .int .i64 a0_6]) (ok := fun _ => True) (okp := fun _ => True) ?hr ?hp (fun _ hk => hk) trivial (Below.refl _ _) (Nat.le_refl _) (by simp) ?_; (case hd => rfl); (case hg => rfl); (case hr => first | (go_simp; done) | (go_simp; rfl)); (case hp => exact (Reps.one (show Kd.M (Kd.int .i64) _ _ _ a0_5 [.int .i64 a0_5] from rfl) (Reps.one (show Kd.M (Kd.int .i64) _ _ _ a0_6 [.int .i64 a0_6] from rfl) (Reps.none _ _)))); intro v121 w92 ho93 hb hg_ hnew_; clear hg_ hnew_; (first | rw [← Ny120.out] at ho93 | (simp only [Int.reduceToNat] at ho93; rw [← Ny120.out] at ho93)); have n0_ := Aside0.mk (Kd.R_lower ho93 (below_size (bl1_ HB GE106))); have n1_ := Aside0.mk (blk_below (g := gb106) (bk_ BK106) hb); have n2_ := Aside0.mk (below_step (bl1_ HB GE106) hb); clear BK106; clear HB; have HO122 := n0_; have BK106 := n1_; have HB := n2_; clear n0_ n1_ n2_; clear hb ho93; obtain ⟨Ao94, co94, eo94⟩ := Kd.R_slice HO122.out; subst eo94) | (go_at_call 52; (with_reducible refine (pdu_all.calls kj22 _ _ y120 65535 false _ ?side1 ?side2 A85.out).mono ?_); (case side1 => exact sc_ (Kd.R_reads' HO122.out).2.2); (case side2 => exact (Kd.R_reads' HO122.out).2.1); rintro e w' ⟨rfl, ⟨nd, rfl⟩⟩))
                   go_ret
                   exact ⟨er_, bl1_ HB GE106⟩
                 ·replace c84 := Bool.eq_false_iff.mpr c84
                  subst c84
                  have H1 : (some 1) = some r := by rw [if_neg (show ¬ (false = true) by decide)] at H; exact H
                  clear H
                  have H := H1
                  clear H1
                  obtain rfl := Option.some.inj H
                  refine cz7_ BK106.out ?_; intro hcz95_0 hcz95_1 hcz95_2 hcz95_3 hcz95_4 hcz95_5 hcz95_6 hfz95_0 hfz95_1 hfz95_2 hfz95_3 hfz95_4 hfz95_5 hfz95_6
                  go_wp2_with (first | (go_at_call 50; (with_reducible refine (pdu_span.calls a0_1 1 false _ A83.out).mono ?_); rintro e w' ⟨rfl, ⟨nd, rfl⟩⟩))
                  go_ret
                  exact ⟨er_, bl1_ HB GE106⟩
                ·rw [if_neg c82] at H
                 have c82b0 : (a0_2 == 0) = false := beq_eq_false_iff_ne.mpr c82
                 have c82b1 : (a0_2 != 0) = true := bne_iff_ne.mpr c82
                 obtain rfl := Option.some.inj H
                 refine cz7_ BK106.out ?_; intro hcz96_0 hcz96_1 hcz96_2 hcz96_3 hcz96_4 hcz96_5 hcz96_6 hfz96_0 hfz96_1 hfz96_2 hfz96_3 hfz96_4 hfz96_5 hfz96_6
                 go_wp2
                 go_ret
                 exact ⟨er_, bl1_ HB GE106⟩
               ·rw [if_neg c81] at H
                have c81b0 : (a0_4 == 0) = false := beq_eq_false_iff_ne.mpr c81
                have c81b1 : (a0_4 != 0) = true := bne_iff_ne.mpr c81
                obtain rfl := Option.some.inj H
                refine cz7_ BK106.out ?_; intro hcz97_0 hcz97_1 hcz97_2 hcz97_3 hcz97_4 hcz97_5 hcz97_6 hfz97_0 hfz97_1 hfz97_2 hfz97_3 hfz97_4 hfz97_5 hfz97_6
                go_wp2
                go_ret
                exact ⟨er_, bl1_ HB GE106⟩
              ·rw [if_neg c80] at H
               have c80b0 : ((l0_3.length : Int) == 0) = false := beq_eq_false_iff_ne.mpr c80
               have c80b1 : ((l0_3.length : Int) != 0) = true := bne_iff_ne.mpr c80
               have c80b2 : ¬ (l0_3 = []) := fun h_ => c80 (by rw [h_]; rfl)
               obtain rfl := Option.some.inj H
               go_wp2
               go_ret
               exact ⟨er_, bl1_ HB GE106⟩
             ·rw [if_neg c79] at H
              have c79b0 : (a0_0 == 22) = false := beq_eq_false_iff_ne.mpr c79
              have c79b1 : (a0_0 != 22) = true := bne_iff_ne.mpr c79
              by_cases c98 : a0_0 = 23
              ·rw [if_pos c98] at H
               have c98b0 : (a0_0 == 23) = true := beq_iff_eq.mpr c98
               have c98b1 : (a0_0 != 23) = false := bne_eq_false_iff_eq.mpr c98
               clear c98
               by_cases c99 : a0_5 = 0
               ·rw [if_pos c99] at H
                have c99b0 : (a0_5 == 0) = true := beq_iff_eq.mpr c99
                have c99b1 : (a0_5 != 0) = false := bne_eq_false_iff_eq.mpr c99
                clear c99
                by_cases c100 : a0_6 = 0
                ·rw [if_pos c100] at H
                 have c100b0 : (a0_6 == 0) = true := beq_iff_eq.mpr c100
                 have c100b1 : (a0_6 != 0) = false := bne_eq_false_iff_eq.mpr c100
                 clear c100
                 replace H := Option.bind_eq_some_iff.mp H
                 obtain ⟨t124, A1010, H⟩ := H
                 replace H : (if t124 = true then ((pdu_span.f a0_1 a0_2).bind fun t125 => (if t125 = true then ((pdu_some.f kj22 l0_3 1 121 65535).bind fun t126 => (if t126 = true then ((pdu_span.f a0_4 (l0_3.length : Int)).bind fun t127 => (if t127 = true then (some 0) else (some 1))) else (some 1))) else (some 1))) else (some 1)) = some r := H
                 have A101 := Aside0.mk A1010
                 clear A1010
                 by_cases c102 : t124 = true
                 ·subst c102
                  have H1 : ((pdu_span.f a0_1 a0_2).bind fun t125 => (if t125 = true then ((pdu_some.f kj22 l0_3 1 121 65535).bind fun t126 => (if t126 = true then ((pdu_span.f a0_4 (l0_3.length : Int)).bind fun t127 => (if t127 = true then (some 0) else (some 1))) else (some 1))) else (some 1))) = some r := by rw [if_pos rfl] at H; exact H
                  clear H
                  have H := H1
                  clear H1
                  replace H := Option.bind_eq_some_iff.mp H
                  obtain ⟨t125, A1030, H⟩ := H
                  replace H : (if t125 = true then ((pdu_some.f kj22 l0_3 1 121 65535).bind fun t126 => (if t126 = true then ((pdu_span.f a0_4 (l0_3.length : Int)).bind fun t127 => (if t127 = true then (some 0) else (some 1))) else (some 1))) else (some 1)) = some r := H
                  have A103 := Aside0.mk A1030
                  clear A1030
                  by_cases c104 : t125 = true
                  ·subst c104
                   have H1 : ((pdu_some.f kj22 l0_3 1 121 65535).bind fun t126 => (if t126 = true then ((pdu_span.f a0_4 (l0_3.length : Int)).bind fun t127 => (if t127 = true then (some 0) else (some 1))) else (some 1))) = some r := by rw [if_pos rfl] at H; exact H
                   clear H
                   have H := H1
                   clear H1
                   replace H := Option.bind_eq_some_iff.mp H
                   obtain ⟨t126, A1050, H⟩ := H
                   replace H : (if t126 = true then ((pdu_span.f a0_4 (l0_3.length : Int)).bind fun t127 => (if t127 = true then (some 0) else (some 1))) else (some 1)) = some r := H
                   have A105 := Aside0.mk A1050
                   clear A1050
                   by_cases c106 : t126 = true
                   ·subst c106
                    have H1 : ((pdu_span.f a0_4 (l0_3.length : Int)).bind fun t127 => (if t127 = true then (some 0) else (some 1))) = some r := by rw [if_pos rfl] at H; exact H
                    clear H
                    have H := H1
                    clear H1
                    replace H := Option.bind_eq_some_iff.mp H
                    obtain ⟨t127, A1070, H⟩ := H
                    replace H : (if t127 = true then (some 0) else (some 1)) = some r := H
                    have A107 := Aside0.mk A1070
                    clear A1070
                    by_cases c108 : t127 = true
                    ·subst c108
                     have H1 : (some 0) = some r := by rw [if_pos rfl] at H; exact H
                     clear H
                     have H := H1
                     clear H1
                     obtain rfl := Option.some.inj H
                     refine cz7_ BK106.out ?_; intro hcz109_0 hcz109_1 hcz109_2 hcz109_3 hcz109_4 hcz109_5 hcz109_6 hfz109_0 hfz109_1 hfz109_2 hfz109_3 hfz109_4 hfz109_5 hfz109_6
                     go_wp2_with (first | (go_at_call 49; (with_reducible refine (pdu_within.calls a0_2 1 125 true _ A101.out).mono ?_); rintro e w' ⟨rfl, ⟨nd, rfl⟩⟩) | (go_at_call 50; (with_reducible refine (pdu_span.calls a0_1 a0_2 true _ A103.out).mono ?_); rintro e w' ⟨rfl, ⟨nd, rfl⟩⟩) | (go_at_call 51; (with_reducible refine (pdu_some.calls kj22 _ _ l0_3 1 121 65535 true _ ?side1 ?side2 A105.out).mono ?_); (case side1 => exact sc_ (Kd.C_below HR0_3.out (bl1_ HB GE106))); (case side2 => exact HC0_3.out); rintro e w' ⟨rfl, ⟨nd, rfl⟩⟩) | (go_at_call 50; (with_reducible refine (pdu_span.calls a0_4 (l0_3.length : Int) true _ A107.out).mono ?_); rintro e w' ⟨rfl, ⟨nd, rfl⟩⟩))
                     go_ret
                     exact ⟨er_, bl1_ HB GE106⟩
                    ·replace c108 := Bool.eq_false_iff.mpr c108
                     subst c108
                     have H1 : (some 1) = some r := by rw [if_neg (show ¬ (false = true) by decide)] at H; exact H
                     clear H
                     have H := H1
                     clear H1
                     obtain rfl := Option.some.inj H
                     refine cz7_ BK106.out ?_; intro hcz110_0 hcz110_1 hcz110_2 hcz110_3 hcz110_4 hcz110_5 hcz110_6 hfz110_0 hfz110_1 hfz110_2 hfz110_3 hfz110_4 hfz110_5 hfz110_6
                     go_wp2_with (first | (go_at_call 49; (with_reducible refine (pdu_within.calls a0_2 1 125 true _ A101.out).mono ?_); rintro e w' ⟨rfl, ⟨nd, rfl⟩⟩) | (go_at_call 50; (with_reducible refine (pdu_span.calls a0_1 a0_2 true _ A103.out).mono ?_); rintro e w' ⟨rfl, ⟨nd, rfl⟩⟩) | (go_at_call 51; (with_reducible refine (pdu_some.calls kj22 _ _ l0_3 1 121 65535 true _ ?side1 ?side2 A105.out).mono ?_); (case side1 => exact sc_ (Kd.C_below HR0_3.out (bl1_ HB GE106))); (case side2 => exact HC0_3.out); rintro e w' ⟨rfl, ⟨nd, rfl⟩⟩) | (go_at_call 50; (with_reducible refine (pdu_span.calls a0_4 (l0_3.length : Int) false _ A107.out).mono ?_); rintro e w' ⟨rfl, ⟨nd, rfl⟩⟩))
                     go_ret
                     exact ⟨er_, bl1_ HB GE106⟩
                   ·replace c106 := Bool.eq_false_iff.mpr c106
                    subst c106
                    have H1 : (some 1) = some r := by rw [if_neg (show ¬ (false = true) by decide)] at H; exact H
                    clear H
                    have H := H1
                    clear H1
                    obtain rfl := Option.some.inj H
                    refine cz7_ BK106.out ?_; intro hcz111_0 hcz111_1 hcz111_2 hcz111_3 hcz111_4 hcz111_5 hcz111_6 hfz111_0 hfz111_1 hfz111_2 hfz111_3 hfz111_4 hfz111_5 hfz111_6
                    go_wp2_with (first | (go_at_call 49; (with_reducible refine (pdu_within.calls a0_2 1 125 true _ A101.out).mono ?_); rintro e w' ⟨rfl, ⟨nd, rfl⟩⟩) | (go_at_call 50; (with_reducible refine (pdu_span.calls a0_1 a0_2 true _ A103.out).mono ?_); rintro e w' ⟨rfl, ⟨nd, rfl⟩⟩) | (go_at_call 51; (with_reducible refine (pdu_some.calls kj22 _ _ l0_3 1 121 65535 false _ ?side1 ?side2 A105.out).mono ?_); (case side1 => exact sc_ (Kd.C_below HR0_3.out (bl1_ HB GE106))); (case side2 => exact HC0_3.out); rintro e w' ⟨rfl, ⟨nd, rfl⟩⟩))
                    go_ret
                    exact ⟨er_, bl1_ HB GE106⟩
                  ·replace c104 := Bool.eq_false_iff.mpr c104
                   subst c104
                   have H1 : (some 1) = some r := by rw [if_neg (show ¬ (false = true) by decide)] at H; exact H
                   clear H
                   have H := H1
                   clear H1
                   obtain rfl := Option.some.inj H
                   refine cz7_ BK106.out ?_; intro hcz112_0 hcz112_1 hcz112_2 hcz112_3 hcz112_4 hcz112_5 hcz112_6 hfz112_0 hfz112_1 hfz112_2 hfz112_3 hfz112_4 hfz112_5 hfz112_6
                   go_wp2_with (first | (go_at_call 49; (with_reducible refine (pdu_within.calls a0_2 1 125 true _ A101.out).mono ?_); rintro e w' ⟨rfl, ⟨nd, rfl⟩⟩) | (go_at_call 50; (with_reducible refine (pdu_span.calls a0_1 a0_2 false _ A103.out).mono ?_); rintro e w' ⟨rfl, ⟨nd, rfl⟩⟩))
                   go_ret
                   exact ⟨er_, bl1_ HB GE106⟩
                 ·replace c102 := Bool.eq_false_iff.mpr c102
                  subst c102
                  have H1 : (some 1) = some r := by rw [if_neg (show ¬ (false = true) by decide)] at H; exact H
                  clear H
                  have H := H1
                  clear H1
                  obtain rfl := Option.some.inj H
                  refine cz7_ BK106.out ?_; intro hcz113_0 hcz113_1 hcz113_2 hcz113_3 hcz113_4 hcz113_5 hcz113_6 hfz113_0 hfz113_1 hfz113_2 hfz113_3 hfz113_4 hfz113_5 hfz113_6
                  go_wp2_with (first | (go_at_call 49; (with_reducible refine (pdu_within.calls a0_2 1 125 false _ A101.out).mono ?_); rintro e w' ⟨rfl, ⟨nd, rfl⟩⟩))
                  go_ret
                  exact ⟨er_, bl1_ HB GE106⟩
                ·rw [if_neg c100] at H
                 have c100b0 : (a0_6 == 0) = false := beq_eq_false_iff_ne.mpr c100
                 have c100b1 : (a0_6 != 0) = true := bne_iff_ne.mpr c100
                 obtain rfl := Option.some.inj H
                 refine cz7_ BK106.out ?_; intro hcz114_0 hcz114_1 hcz114_2 hcz114_3 hcz114_4 hcz114_5 hcz114_6 hfz114_0 hfz114_1 hfz114_2 hfz114_3 hfz114_4 hfz114_5 hfz114_6
                 go_wp2
                 go_ret
                 exact ⟨er_, bl1_ HB GE106⟩
               ·rw [if_neg c99] at H
                have c99b0 : (a0_5 == 0) = false := beq_eq_false_iff_ne.mpr c99
                have c99b1 : (a0_5 != 0) = true := bne_iff_ne.mpr c99
                obtain rfl := Option.some.inj H
                refine cz7_ BK106.out ?_; intro hcz115_0 hcz115_1 hcz115_2 hcz115_3 hcz115_4 hcz115_5 hcz115_6 hfz115_0 hfz115_1 hfz115_2 hfz115_3 hfz115_4 hfz115_5 hfz115_6
                go_wp2
                go_ret
                exact ⟨er_, bl1_ HB GE106⟩
              ·rw [if_neg c98] at H
               have c98b0 : (a0_0 == 23) = false := beq_eq_false_iff_ne.mpr c98
               have c98b1 : (a0_0 != 23) = true := bne_iff_ne.mpr c98
               by_cases c116 : false = true
               ·exact absurd c116 Bool.false_ne_true
               ·replace c116 := Bool.eq_false_iff.mpr c116
                have H1 : (some 1) = some r := by rw [if_neg (show ¬ (false = true) by decide)] at H; exact H
                clear H
                have H := H1
                clear H1
                obtain rfl := Option.some.inj H
                go_wp2
                go_ret
                exact ⟨er_, bl1_ HB GE106⟩
end Go.Proofs.Ytocicifgglkaeaa.PQ
end

section
namespace Go.Proofs.Ytocicifgglkaeaa.PQ
open Go.RowKit Go.Proofs.YtocicifgglkaeaaW.PrintWords Go.Proofs.YtocicifgglkaeaaW.PrintLast Go.Proofs.YtocicifgglkaeaaW.PrintMore
attribute [local go_sem] max2_int min2_int max_two min_two max_three min_three max_four min_four   
set_option linter.unusedVariables false
set_option linter.unusedSimpArgs false
open Go.Proofs.Ytocicifgglkaeaa.Ext Go.Proofs.Ytocicifgglkaeaa.PP Go.Proofs.Ytocicifgglkaeaa.ExtF
def pdu_counted.f (l0 : List Int) (l1 : List Int) : Option (List Int) := if l0.length < 140737488355328 then ((some (l0 ++ [((l1.length : Int)) % 256] : List Int)).bind fun y128 => (if y128.length + l1.length < 140737488355328 then (some (y128 ++ l1)) else (none))) else (none)
set_option maxHeartbeats 8000000 in
set_option maxRecDepth 100000 in
theorem pdu_counted.calls (P0_ : Nat → Prop) (u9000_ : Value) (l0 : List Int) (A1 : Option Addr) (c1 : Nat) (l1 : List Int) (r : List Int) (w0 w : World) (hB : Below w0.heap.size w0 w) (ho0 : Kd.R (Kd.int .u8) 5 w w0.heap.size P0_ u9000_ l0) (hr1 : ∀ W_, Kept w W_ (fun k_ => P0_ k_) → Kd.C (Kd.int .u8) W_ A1 l1.length l1) (hc1 : l1.length ≤ c1) (h : pdu_counted.f l0 l1 = some r) :
 Calls Try.prog 54 #[u9000_, .slice A1 l1.length c1] w fun e w' => ∃ v0_ : Value, e = .returned (v0_) ∧ Kd.R (Kd.int .u8) 5 w' w0.heap.size (fun k_ => (P0_ k_ ∨ w.heap.size ≤ k_)) v0_ r ∧ Below w0.heap.size w0 w' ∧ Kept w w' (fun k_ => P0_ k_) := by
 have HO0 := Aside0.mk (show Kd.R (Kd.int .u8) 5 w w0.heap.size (fun k_ => (P0_ k_ ∨ w.heap.size ≤ k_)) u9000_ l0 from Kd.R_mono ho0 (fun k_ hk => (.inl hk)))
 have HR1 := Aside0.mk hr1
 have HC1 := Aside0.mk hc1
 clear hr1 hc1
 have HK := Aside0.mk (Kept.refl w (fun k_ => P0_ k_))
 have HW0 := Aside0.mk hB.size
 have HB := Aside0.mk hB
 clear hB
 have H : (if l0.length < 140737488355328 then ((some (l0 ++ [((l1.length : Int)) % 256] : List Int)).bind fun y128 => (if y128.length + l1.length < 140737488355328 then (some (y128 ++ l1)) else (none))) else (none)) = some r := h
 clear h
 by_cases c3 : l0.length < 140737488355328
 ·rw [if_pos c3] at H
  have LMc3 := Aside0.mk c3
  clear c3
  obtain ⟨y128, hy128⟩ : ∃ y_ : List Int, y_ = (l0 ++ [((l1.length : Int)) % 256]) := ⟨_, rfl⟩
  replace H : (if y128.length + l1.length < 140737488355328 then (some (y128 ++ l1)) else (none)) = some r := by first | (rw [hy128]; with_reducible exact H) | (have H2_ := (Option.bind_some _ _).symm.trans H; rw [hy128]; with_reducible exact H2_) | (have H2_ := (Option.bind_some _ _).symm.trans H; with_reducible exact H2_) | with_reducible exact H | (rw [hy128]; exact H) | exact H
  have Ny128 := Aside0.mk hy128
  clear hy128
  by_cases c4 : y128.length + l1.length < 140737488355328
  ·rw [if_pos c4] at H
   have LMc4 := Aside0.mk c4
   clear c4
   obtain ⟨y131, hy131⟩ : ∃ y_ : List Int, y_ = (y128 ++ l1) := ⟨_, rfl⟩
   replace H : (some y131) = some r := by first | (rw [hy131]; with_reducible exact H) | (have H2_ := (Option.bind_some _ _).symm.trans H; rw [hy131]; with_reducible exact H2_) | (have H2_ := (Option.bind_some _ _).symm.trans H; with_reducible exact H2_) | with_reducible exact H | (rw [hy131]; exact H) | exact H
   have Ny131 := Aside0.mk hy131
   clear hy131
   obtain rfl := Option.some.inj H
   go_enter Try.func54, Try.ntmps54
   go_wp2_with (first | ((with_reducible refine gate_builtin (b := .append) (xs := #[.tmp 5, .tmp 9]) rfl ?_); at_builtin; refine Kd.R_append (Kd.int .u8) (w0 := w0) w0.heap.size rfl (.tmp 5) (.tmp 9) 58 5 (.int .u8 0) 1 rfl Try.underlying58 info5 rfl (by decide) (by omega) u9000_ l0 (((l1.length : Int)) % 256) [.int .u8 (((l1.length : Int)) % 256)] (fun k_ => (P0_ k_ ∨ w.heap.size ≤ k_)) (fun _ => False) rfl rfl ?aP (fun _ hk => hk.elim) ?aF ?aO ?aB ?aS ?aL ?_; (case aP => exact rfl); (case aB => exact (bl0_ HB)); (case aF => exact (fun k_ hk => (.inr (Nat.le_trans (by first | exact HK.out.1 | exact (show Kept w _ (fun k_ => P0_ k_) from by repeat (first | (with_reducible first | exact HK.out | apply Kept.alloc | apply Kept.drewN | apply Kept.drew) | exact HK.out)).1) hk)))); (case aO => exact (kr_ HO0)); (case aS => exact (below_size (bl0_ HB))); (case aL => have := LMc3.out; omega); intro v129 w5 ho hb hg hat; rw [← Ny128.out] at ho; have n0_ := Aside0.mk (hb); have n1_ := Aside0.mk (Kept.of_grown (S := (fun k_ => P0_ k_)) hg (by repeat (first | (with_reducible first | exact HK.out | apply Kept.alloc | apply Kept.drewN | apply Kept.drew) | exact HK.out)) (fun k_ e_ => (HO0.out.1 k_ e_))); have n2_ := Aside0.mk (ho); clear HB; clear HK; clear HO0; have HB := n0_; have HK := n1_; have HO130 := n2_; clear n0_ n1_ n2_; clear ho hb hg hat) | ((with_reducible refine gate_builtin (b := .append) (xs := #[.tmp 10, .tmp 11]) rfl ?_); at_builtin; refine Kd.R_append_rows (Kd.int .u8) (w0 := w0) w0.heap.size rfl (.tmp 10) (.tmp 11) 58 5 (.int .u8 0) 1 rfl Try.underlying58 info5 rfl (by decide) (by omega) v129 y128 l1 _ _ _ (fun k_ => (P0_ k_ ∨ w.heap.size ≤ k_)) (fun _ => False) rfl rfl ?aO ?aR (fun _ _ h => h) (fun _ h => h.elim) ?aF ?aB ?aS ?aL ?_; (case aR => exact Kd.C_kept_now HR1.out (by repeat (first | (with_reducible first | exact HK.out | apply Kept.alloc | apply Kept.drewN | apply Kept.drew) | exact HK.out))); (case aB => exact (bl0_ HB)); (case aF => exact (fun k_ hk => (.inr (Nat.le_trans (by first | exact HK.out.1 | exact (show Kept w _ (fun k_ => P0_ k_) from by repeat (first | (with_reducible first | exact HK.out | apply Kept.alloc | apply Kept.drewN | apply Kept.drew) | exact HK.out)).1) hk)))); (case aO => exact (kr_ HO130)); (case aS => exact (below_size (bl0_ HB))); (case aL => have := LMc4.out; omega); intro v132 w6 ho hb hg hat; rw [← Ny131.out] at ho; have n0_ := Aside0.mk (hb); have n1_ := Aside0.mk (Kept.of_grown (S := (fun k_ => P0_ k_)) hg (by repeat (first | (with_reducible first | exact HK.out | apply Kept.alloc | apply Kept.drewN | apply Kept.drew) | exact HK.out)) (fun k_ e_ => (HO130.out.1 k_ e_))); have n2_ := Aside0.mk (ho); clear HB; clear HK; clear HO130; have HB := n0_; have HK := n1_; have HO133 := n2_; clear n0_ n1_ n2_; clear ho hb hg hat))
   go_ret
   exact ⟨_, er_, kr_ HO133, bl0_ HB, by repeat (first | (with_reducible first | exact HK.out | apply Kept.alloc | apply Kept.drewN | apply Kept.drew) | exact HK.out)⟩
  ·rw [if_neg c4] at H
   exact absurd H (by simp)
 ·rw [if_neg c3] at H
  exact absurd H (by simp)
def pdu_packed.f (k : Nat) (l0 : List Int) : Option (List Int) := (wire_Pack.f k l0).bind fun bt134 => (some bt134.1)
theorem pdu_packed.mono : ∀ a0 k, LeO (pdu_packed.f k a0) (pdu_packed.f (k + 1) a0) := by
 intro a0 k
 unfold pdu_packed.f
 repeat' first
  | (with_reducible exact wire_Pack.mono _ _)
  | (with_reducible exact LeO.refl _)
  | (with_reducible exact LeO.none _)
  | (with_reducible refine LeO.ite ?_ ?_)
  | (with_reducible refine LeO.bind ?_ (fun _ => ?_))
  | exact wire_Pack.mono _ _
  | exact LeO.none _
  | refine LeO.ite ?_ ?_
  | refine LeO.bind ?_ (fun _ => ?_)
set_option maxHeartbeats 8000000 in
set_option maxRecDepth 100000 in
theorem pdu_packed.calls (k : Nat) (A0 : Option Addr) (c0 : Nat) (l0 : List Int) (r : List Int) (w : World) (hr0 : Kd.C (Kd.int .i64) w A0 l0.length l0) (hc0 : l0.length ≤ c0) (h : pdu_packed.f k l0 = some r) :
 Calls Try.prog 55 #[.slice A0 l0.length c0] w fun e w' => ∃ v0_ : Value, e = .returned (v0_) ∧ Kd.R (Kd.int .u8) 5 w' w.heap.size (fun _ => True) v0_ r ∧ Below w.heap.size w w' := by
 have HR0 := Aside0.mk hr0
 have HC0 := Aside0.mk hc0
 clear hr0 hc0
 have HB := Aside0.mk (Below.refl w.heap.size w)
 have H : ((wire_Pack.f k l0).bind fun bt134 => (some bt134.1)) = some r := h
 clear h
 replace H := Option.bind_eq_some_iff.mp H
 obtain ⟨⟨t134, t135⟩, A20, H⟩ := H
 replace H : (some t134) = some r := H
 have A2 := Aside0.mk A20
 clear A20
 obtain rfl := Option.some.inj H
 go_enter Try.func55, Try.ntmps55
 go_wp2_with (first | ((with_reducible refine gate_callee (f := 70) rfl ?_); refine goesL_ (some 7) rfl rfl Try.func70 (by kernel_rfl) rfl #[.slice A0 l0.length c0] rfl ar_ ?_; (with_reducible refine (wire_Pack.calls k _ _ l0 t134 t135 _ ?side1 ?side2 A2.out).mono ?_); (case side1 => repeat (first | exact HR0.out | (with_reducible refine Kd.C_alloc ?_ _) | (with_reducible refine Kd.C_drewN ?_ _) | (with_reducible refine Kd.C_drew ?_))); (case side2 => exact HC0.out); rintro e w3 ⟨v136, rfl, ho0, hb⟩; refine ⟨_, rfl, ?_⟩; have n0_ := Aside0.mk (Kd.R_lower ho0 (below_size (bl0_ HB))); have n1_ := Aside0.mk (below_step (bl0_ HB) hb); clear HB; have HO137 := n0_; have HB := n1_; clear n0_ n1_; (try clear hb); (try clear hb2); (try clear hk); (try clear hi); (try clear ho0)))
 go_ret
 exact ⟨_, er_, kr_ HO137, bl0_ HB⟩
def pdu_Bytes.f (k : Nat) (a0_0 : Int) (a0_1 : Int) (a0_2 : Int) (l0_3 : List Int) (a0_4 : Int) (a0_5 : Int) (a0_6 : Int) : Option (List Int × Int) := (pdu_Check.f k a0_0 a0_1 a0_2 l0_3 a0_4 a0_5 a0_6).bind fun t139 => (if t139 = 0 then ((pdu_lay.f (([(a0_0) % 256] : List Int)) (([a0_1] : List Int))).bind fun t146 => (if a0_0 = 5 then (if 0 < (l0_3.length : Int) then ((pdu_lay.f t146 (([wrap64 (65280 * (rd l0_3 0))] : List Int))).bind fun t153 => (some (t153, 0))) else (none)) else (if a0_0 = 6 then (if 0 < (l0_3.length : Int) then ((pdu_lay.f t146 (([rd l0_3 0] : List Int))).bind fun t160 => (some (t160, 0))) else (none)) else (if a0_0 = 22 then ((pdu_lay.f t146 (([a0_5, a0_6] : List Int))).bind fun t166 => (some (t166, 0))) else (if a0_0 = 15 then ((pdu_lay.f t146 (([a0_2] : List Int))).bind fun t172 => ((pdu_packed.f k l0_3).bind fun t175 => ((pdu_counted.f t172 t175).bind fun t178 => (some (t178, 0))))) else (if a0_0 = 23 then ((pdu_lay.f t146 (([a0_2, a0_4, (l0_3.length : Int)] : List Int))).bind fun t184 => ((pdu_lay.f ([] : List Int) l0_3).bind fun t187 => ((pdu_counted.f t184 t187).bind fun t190 => (some (t190, 0))))) else (if a0_0 = 16 then ((pdu_lay.f t146 (([a0_2] : List Int))).bind fun t196 => ((pdu_lay.f ([] : List Int) l0_3).bind fun t199 => ((pdu_counted.f t196 t199).bind fun t202 => (some (t202, 0))))) else ((pdu_lay.f t146 (([a0_2] : List Int))).bind fun t208 => (some (t208, 0)))))))))) else (some (([] : List Int), t139)))
theorem pdu_Bytes.mono : ∀ a0 a1 a2 a3 a4 a5 a6 k, LeO (pdu_Bytes.f k a0 a1 a2 a3 a4 a5 a6) (pdu_Bytes.f (k + 1) a0 a1 a2 a3 a4 a5 a6) := by
 intro a0 a1 a2 a3 a4 a5 a6 k
 unfold pdu_Bytes.f
 repeat' first
  | (with_reducible exact pdu_Check.mono _ _ _ _ _ _ _ _)
  | (with_reducible exact pdu_packed.mono _ _)
  | (with_reducible exact LeO.refl _)
  | (with_reducible exact LeO.none _)
  | (with_reducible refine LeO.ite ?_ ?_)
  | (with_reducible refine LeO.bind ?_ (fun _ => ?_))
  | exact pdu_Check.mono _ _ _ _ _ _ _ _
  | exact pdu_packed.mono _ _
  | exact LeO.none _
  | refine LeO.ite ?_ ?_
  | refine LeO.bind ?_ (fun _ => ?_)
def pdu_Bytes.T14 : Bool × List (List Nat × List Nat) := (true, [([], []), ([], []), ([1], [1]), ([2], [2]), ([0, 3], [0, 3]), ([], []), ([5], [5]), ([6, 4], [6]), ([4, 7, 7], [4, 7]), ([8, 8, 0, 1, 2, 3, 4, 5, 6, 7, 8], [0, 8])])
def pdu_Bytes.B14 : List Nat := [0, 0, 2, 6, 15, 0, 32, 127, 255, 511]
theorem pdu_Bytes.tab14 : rtab .any (opsOf Try.f30 14) = pdu_Bytes.T14 := by kernel_rfl
theorem pdu_Bytes.bits14 : waitsOk pdu_Bytes.T14.2 pdu_Bytes.B14 = true := by kernel_rfl
def pdu_Bytes.T19 : Bool × List (List Nat × List Nat) := (true, [([], []), ([], []), ([1], [1]), ([2], [2]), ([0, 3], [0, 3]), ([], []), ([5], [5]), ([6, 4], [6]), ([4, 7, 7], [4, 7]), ([8, 8, 0, 1, 2, 3, 4, 5, 6, 7, 8], [0, 8])])
def pdu_Bytes.B19 : List Nat := [0, 0, 2, 6, 15, 0, 32, 127, 255, 511]
theorem pdu_Bytes.tab19 : rtab .any (opsOf Try.f30 19) = pdu_Bytes.T19 := by kernel_rfl
theorem pdu_Bytes.bits19 : waitsOk pdu_Bytes.T19.2 pdu_Bytes.B19 = true := by kernel_rfl
set_option maxHeartbeats 8000000 in
set_option maxRecDepth 100000 in
theorem pdu_Bytes.calls (k : Nat) (a0_0 : Int) (a0_1 : Int) (a0_2 : Int) (A0_3 : Option Addr) (c0_3 : Nat) (l0_3 : List Int) (a0_4 : Int) (a0_5 : Int) (a0_6 : Int) (r1 : List Int) (r2 : Int) (w : World) (hr0_3 : Kd.C (Kd.int .i64) w A0_3 l0_3.length l0_3) (hc0_3 : l0_3.length ≤ c0_3) (h : pdu_Bytes.f k a0_0 a0_1 a0_2 l0_3 a0_4 a0_5 a0_6 = some (r1, r2)) :
 Calls Try.prog 30 #[.agg #[.int .i64 a0_0, .int .i64 a0_1, .int .i64 a0_2, .slice A0_3 l0_3.length c0_3, .int .i64 a0_4, .int .i64 a0_5, .int .i64 a0_6]] w fun e w' => ∃ v0_ : Value, e = .returned (.tuple #[v0_, .int .i64 r2]) ∧ Kd.R (Kd.int .u8) 5 w' w.heap.size (fun _ => True) v0_ r1 ∧ Below w.heap.size w w' := by
 have hu24 := Try.underlying24
 have HR0_3 := Aside0.mk hr0_3
 have HC0_3 := Aside0.mk hc0_3
 clear hr0_3 hc0_3
 have HB := Aside0.mk (Below.refl w.heap.size w)
 have H : ((pdu_Check.f k a0_0 a0_1 a0_2 l0_3 a0_4 a0_5 a0_6).bind fun t139 => (if t139 = 0 then ((pdu_lay.f (([(a0_0) % 256] : List Int)) (([a0_1] : List Int))).bind fun t146 => (if a0_0 = 5 then (if 0 < (l0_3.length : Int) then ((pdu_lay.f t146 (([wrap64 (65280 * (rd l0_3 0))] : List Int))).bind fun t153 => (some (t153, 0))) else (none)) else (if a0_0 = 6 then (if 0 < (l0_3.length : Int) then ((pdu_lay.f t146 (([rd l0_3 0] : List Int))).bind fun t160 => (some (t160, 0))) else (none)) else (if a0_0 = 22 then ((pdu_lay.f t146 (([a0_5, a0_6] : List Int))).bind fun t166 => (some (t166, 0))) else (if a0_0 = 15 then ((pdu_lay.f t146 (([a0_2] : List Int))).bind fun t172 => ((pdu_packed.f k l0_3).bind fun t175 => ((pdu_counted.f t172 t175).bind fun t178 => (some (t178, 0))))) else (if a0_0 = 23 then ((pdu_lay.f t146 (([a0_2, a0_4, (l0_3.length : Int)] : List Int))).bind fun t184 => ((pdu_lay.f ([] : List Int) l0_3).bind fun t187 => ((pdu_counted.f t184 t187).bind fun t190 => (some (t190, 0))))) else (if a0_0 = 16 then ((pdu_lay.f t146 (([a0_2] : List Int))).bind fun t196 => ((pdu_lay.f ([] : List Int) l0_3).bind fun t199 => ((pdu_counted.f t196 t199).bind fun t202 => (some (t202, 0))))) else ((pdu_lay.f t146 (([a0_2] : List Int))).bind fun t208 => (some (t208, 0)))))))))) else (some (([] : List Int), t139)))) = some (r1, r2) := h
 clear h
 replace H := Option.bind_eq_some_iff.mp H
 obtain ⟨t139, A20, H⟩ := H
 replace H : (if t139 = 0 then ((pdu_lay.f (([(a0_0) % 256] : List Int)) (([a0_1] : List Int))).bind fun t146 => (if a0_0 = 5 then (if 0 < (l0_3.length : Int) then ((pdu_lay.f t146 (([wrap64 (65280 * (rd l0_3 0))] : List Int))).bind fun t153 => (some (t153, 0))) else (none)) else (if a0_0 = 6 then (if 0 < (l0_3.length : Int) then ((pdu_lay.f t146 (([rd l0_3 0] : List Int))).bind fun t160 => (some (t160, 0))) else (none)) else (if a0_0 = 22 then ((pdu_lay.f t146 (([a0_5, a0_6] : List Int))).bind fun t166 => (some (t166, 0))) else (if a0_0 = 15 then ((pdu_lay.f t146 (([a0_2] : List Int))).bind fun t172 => ((pdu_packed.f k l0_3).bind fun t175 => ((pdu_counted.f t172 t175).bind fun t178 => (some (t178, 0))))) else (if a0_0 = 23 then ((pdu_lay.f t146 (([a0_2, a0_4, (l0_3.length : Int)] : List Int))).bind fun t184 => ((pdu_lay.f ([] : List Int) l0_3).bind fun t187 => ((pdu_counted.f t184 t187).bind fun t190 => (some (t190, 0))))) else (if a0_0 = 16 then ((pdu_lay.f t146 (([a0_2] : List Int))).bind fun t196 => ((pdu_lay.f ([] : List Int) l0_3).bind fun t199 => ((pdu_counted.f t196 t199).bind fun t202 => (some (t202, 0))))) else ((pdu_lay.f t146 (([a0_2] : List Int))).bind fun t208 => (some (t208, 0)))))))))) else (some (([] : List Int), t139))) = some (r1, r2) := H
 have A2 := Aside0.mk A20
 clear A20
 by_cases c3 : t139 = 0
 ·rw [if_pos c3] at H
  have c3b0 : (t139 == 0) = true := beq_iff_eq.mpr c3
  have c3b1 : (t139 != 0) = false := bne_eq_false_iff_eq.mpr c3
  clear c3
  obtain ⟨y140, hy140⟩ : ∃ y_ : List Int, y_ = (([(a0_0) % 256] : List Int)) := ⟨_, rfl⟩
  replace H : ((pdu_lay.f y140 (([a0_1] : List Int))).bind fun t146 => (if a0_0 = 5 then (if 0 < (l0_3.length : Int) then ((pdu_lay.f t146 (([wrap64 (65280 * (rd l0_3 0))] : List Int))).bind fun t153 => (some (t153, 0))) else (none)) else (if a0_0 = 6 then (if 0 < (l0_3.length : Int) then ((pdu_lay.f t146 (([rd l0_3 0] : List Int))).bind fun t160 => (some (t160, 0))) else (none)) else (if a0_0 = 22 then ((pdu_lay.f t146 (([a0_5, a0_6] : List Int))).bind fun t166 => (some (t166, 0))) else (if a0_0 = 15 then ((pdu_lay.f t146 (([a0_2] : List Int))).bind fun t172 => ((pdu_packed.f k l0_3).bind fun t175 => ((pdu_counted.f t172 t175).bind fun t178 => (some (t178, 0))))) else (if a0_0 = 23 then ((pdu_lay.f t146 (([a0_2, a0_4, (l0_3.length : Int)] : List Int))).bind fun t184 => ((pdu_lay.f ([] : List Int) l0_3).bind fun t187 => ((pdu_counted.f t184 t187).bind fun t190 => (some (t190, 0))))) else (if a0_0 = 16 then ((pdu_lay.f t146 (([a0_2] : List Int))).bind fun t196 => ((pdu_lay.f ([] : List Int) l0_3).bind fun t199 => ((pdu_counted.f t196 t199).bind fun t202 => (some (t202, 0))))) else ((pdu_lay.f t146 (([a0_2] : List Int))).bind fun t208 => (some (t208, 0)))))))))) = some (r1, r2) := by first | (rw [hy140]; with_reducible exact H) | (have H2_ := (Option.bind_some _ _).symm.trans H; rw [hy140]; with_reducible exact H2_) | (have H2_ := (Option.bind_some _ _).symm.trans H; with_reducible exact H2_) | with_reducible exact H | (rw [hy140]; exact H) | exact H
  have Ny140 := Aside0.mk hy140
  clear hy140
  obtain ⟨y143, hy143⟩ : ∃ y_ : List Int, y_ = (([a0_1] : List Int)) := ⟨_, rfl⟩
  replace H : ((pdu_lay.f y140 y143).bind fun t146 => (if a0_0 = 5 then (if 0 < (l0_3.length : Int) then ((pdu_lay.f t146 (([wrap64 (65280 * (rd l0_3 0))] : List Int))).bind fun t153 => (some (t153, 0))) else (none)) else (if a0_0 = 6 then (if 0 < (l0_3.length : Int) then ((pdu_lay.f t146 (([rd l0_3 0] : List Int))).bind fun t160 => (some (t160, 0))) else (none)) else (if a0_0 = 22 then ((pdu_lay.f t146 (([a0_5, a0_6] : List Int))).bind fun t166 => (some (t166, 0))) else (if a0_0 = 15 then ((pdu_lay.f t146 (([a0_2] : List Int))).bind fun t172 => ((pdu_packed.f k l0_3).bind fun t175 => ((pdu_counted.f t172 t175).bind fun t178 => (some (t178, 0))))) else (if a0_0 = 23 then ((pdu_lay.f t146 (([a0_2, a0_4, (l0_3.length : Int)] : List Int))).bind fun t184 => ((pdu_lay.f ([] : List Int) l0_3).bind fun t187 => ((pdu_counted.f t184 t187).bind fun t190 => (some (t190, 0))))) else (if a0_0 = 16 then ((pdu_lay.f t146 (([a0_2] : List Int))).bind fun t196 => ((pdu_lay.f ([] : List Int) l0_3).bind fun t199 => ((pdu_counted.f t196 t199).bind fun t202 => (some (t202, 0))))) else ((pdu_lay.f t146 (([a0_2] : List Int))).bind fun t208 => (some (t208, 0)))))))))) = some (r1, r2) := by first | (rw [hy143]; with_reducible exact H) | (have H2_ := (Option.bind_some _ _).symm.trans H; rw [hy143]; with_reducible exact H2_) | (have H2_ := (Option.bind_some _ _).symm.trans H; with_reducible exact H2_) | with_reducible exact H | (rw [hy143]; exact H) | exact H
  have Ny143 := Aside0.mk hy143
  clear hy143
  replace H := Option.bind_eq_some_iff.mp H
  obtain ⟨t146, A40, H⟩ := H
  replace H : (if a0_0 = 5 then (if 0 < (l0_3.length : Int) then ((pdu_lay.f t146 (([wrap64 (65280 * (rd l0_3 0))] : List Int))).bind fun t153 => (some (t153, 0))) else (none)) else (if a0_0 = 6 then (if 0 < (l0_3.length : Int) then ((pdu_lay.f t146 (([rd l0_3 0] : List Int))).bind fun t160 => (some (t160, 0))) else (none)) else (if a0_0 = 22 then ((pdu_lay.f t146 (([a0_5, a0_6] : List Int))).bind fun t166 => (some (t166, 0))) else (if a0_0 = 15 then ((pdu_lay.f t146 (([a0_2] : List Int))).bind fun t172 => ((pdu_packed.f k l0_3).bind fun t175 => ((pdu_counted.f t172 t175).bind fun t178 => (some (t178, 0))))) else (if a0_0 = 23 then ((pdu_lay.f t146 (([a0_2, a0_4, (l0_3.length : Int)] : List Int))).bind fun t184 => ((pdu_lay.f ([] : List Int) l0_3).bind fun t187 => ((pdu_counted.f t184 t187).bind fun t190 => (some (t190, 0))))) else (if a0_0 = 16 then ((pdu_lay.f t146 (([a0_2] : List Int))).bind fun t196 => ((pdu_lay.f ([] : List Int) l0_3).bind fun t199 => ((pdu_counted.f t196 t199).bind fun t202 => (some (t202, 0))))) else ((pdu_lay.f t146 (([a0_2] : List Int))).bind fun t208 => (some (t208, 0))))))))) = some (r1, r2) := H
  have A4 := Aside0.mk A40
  clear A40
  by_cases c5 : a0_0 = 5
  ·rw [if_pos c5] at H
   have c5b0 : (a0_0 == 5) = true := beq_iff_eq.mpr c5
   have c5b1 : (a0_0 != 5) = false := bne_eq_false_iff_eq.mpr c5
   clear c5
   by_cases c6 : 0 < (l0_3.length : Int)
   ·rw [if_pos c6] at H
    have c6b0 : decide (0 < (l0_3.length : Int)) = true := decide_eq_true c6
    have c6b1 : decide (0 < l0_3.length) = true := decide_eq_true (by omega)
    clear c6
    obtain ⟨y150, hy150⟩ : ∃ y_ : List Int, y_ = (([wrap64 (65280 * (rd l0_3 0))] : List Int)) := ⟨_, rfl⟩
    replace H : ((pdu_lay.f t146 y150).bind fun t153 => (some (t153, 0))) = some (r1, r2) := by first | (rw [hy150]; with_reducible exact H) | (have H2_ := (Option.bind_some _ _).symm.trans H; rw [hy150]; with_reducible exact H2_) | (have H2_ := (Option.bind_some _ _).symm.trans H; with_reducible exact H2_) | with_reducible exact H | (rw [hy150]; exact H) | exact H
    have Ny150 := Aside0.mk hy150
    clear hy150
    replace H := Option.bind_eq_some_iff.mp H
    obtain ⟨t153, A70, H⟩ := H
    replace H : (some (t153, 0)) = some (r1, r2) := H
    have A7 := Aside0.mk A70
    clear A70
    simp only [Option.some.injEq, Prod.mk.injEq] at H
    obtain ⟨rfl, rfl⟩ := H
    go_enter Try.func30, Try.ntmps30
    go_wp2_with (first | ((with_reducible refine gate_dst (N := 1) rfl ?_); refine bx_ (N := 1) (cs := #[.int .i64 a0_0, .int .i64 a0_1, .int .i64 a0_2, .slice A0_3 l0_3.length c0_3, .int .i64 a0_4, .int .i64 a0_5, .int .i64 a0_6]) (t := 24) ?_; intro gb138 hg w8 hbox hb; have n0_ := Aside0.mk (below_step (bl0_ HB) hb); have n1_ := Aside0.mk (hbox); have n2_ := Aside0.mk ((by rw [hg]; exact (below_size (bl0_ HB)) : w.heap.size ≤ gb138)); have n3_ := Aside0.mk ((by rw [hg]; exact (below_size (bl0_ HB)) : w.heap.size ≤ gb138)); clear HB; have HB := n0_; have BK138 := n1_; have GW138 := n2_; have GE138 := n3_; clear n0_ n1_ n2_ n3_; clear hb hbox hg; refine cz7_ BK138.out ?_; intro hcz9_0 hcz9_1 hcz9_2 hcz9_3 hcz9_4 hcz9_5 hcz9_6 hfz9_0 hfz9_1 hfz9_2 hfz9_3 hfz9_4 hfz9_5 hfz9_6) | ((with_reducible refine gate_callee (f := 29) rfl ?_); refine goesL_ (some 7) rfl rfl Try.func29 (by kernel_rfl) rfl #[.agg #[.int .i64 a0_0, .int .i64 a0_1, .int .i64 a0_2, .slice A0_3 l0_3.length c0_3, .int .i64 a0_4, .int .i64 a0_5, .int .i64 a0_6]] rfl ar_ ?_; (with_reducible refine (pdu_Check.calls k a0_0 a0_1 a0_2 _ _ l0_3 a0_4 a0_5 a0_6 t139 _ ?side1 ?side2 A2.out).mono ?_); (case side1 => exact sc_ (Kd.C_below HR0_3.out HB.out)); (case side2 => exact HC0_3.out); rintro e w10 ⟨rfl, hb⟩; refine ⟨_, rfl, ?_⟩; have n0_ := Aside0.mk (blk_below (g := gb138) (bk_ BK138) hb); have n1_ := Aside0.mk (below_step (bl1_ HB GE138) hb); clear BK138; clear HB; have BK138 := n0_; have HB := n1_; clear n0_ n1_; (try clear hb); (try clear hb2); (try clear hk); (try clear hi); refine cz7_ BK138.out ?_; intro hcz11_0 hcz11_1 hcz11_2 hcz11_3 hcz11_4 hcz11_5 hcz11_6 hfz11_0 hfz11_1 hfz11_2 hfz11_3 hfz11_4 hfz11_5 hfz11_6) | ((with_reducible refine gate_dst (N := 14) rfl ?_); refine Kd.R_lit (Kd.int .u8) _ 5 ?hg (N := 14) ?hd (xs := ([(a0_0) % 256] : List Int)) (inner := [.int .u8 ((a0_0) % 256)]) (ok := fun _ => True) (okp := fun _ => True) ?hr ?hp (fun _ hk => hk) trivial (Below.refl _ _) (Nat.le_refl _) (by simp) ?_; (case hd => rfl); (case hg => rfl); (case hr => first | (go_simp; done) | (go_simp; rfl)); (case hp => exact (Reps.one (show Kd.M (Kd.int .u8) _ _ _ ((a0_0) % 256) [.int .u8 ((a0_0) % 256)] from rfl) (Reps.none _ _))); intro v141 w12 ho13 hb hg_ hnew_; clear hg_ hnew_; (first | rw [← Ny140.out] at ho13 | (simp only [Int.reduceToNat] at ho13; rw [← Ny140.out] at ho13)); have n0_ := Aside0.mk (Kd.R_lower ho13 (below_size (bl1_ HB GE138))); have n1_ := Aside0.mk (blk_below (g := gb138) (bk_ BK138) hb); have n2_ := Aside0.mk (below_step (bl1_ HB GE138) hb); clear BK138; clear HB; have HO142 := n0_; have BK138 := n1_; have HB := n2_; clear n0_ n1_ n2_; clear hb ho13; refine cz7_ BK138.out ?_; intro hcz14_0 hcz14_1 hcz14_2 hcz14_3 hcz14_4 hcz14_5 hcz14_6 hfz14_0 hfz14_1 hfz14_2 hfz14_3 hfz14_4 hfz14_5 hfz14_6) | ((with_reducible refine gate_dst (N := 17) rfl ?_); refine Kd.R_lit (Kd.int .i64) _ 3 ?hg (N := 17) ?hd (xs := ([a0_1] : List Int)) (inner := [.int .i64 a0_1]) (ok := fun _ => True) (okp := fun _ => True) ?hr ?hp (fun _ hk => hk) trivial (Below.refl _ _) (Nat.le_refl _) (by simp) ?_; (case hd => rfl); (case hg => rfl); (case hr => first | (go_simp; done) | (go_simp; rfl)); (case hp => exact (Reps.one (show Kd.M (Kd.int .i64) _ _ _ a0_1 [.int .i64 a0_1] from rfl) (Reps.none _ _))); intro v144 w15 ho16 hb hg_ hnew_; clear hg_ hnew_; (first | rw [← Ny143.out] at ho16 | (simp only [Int.reduceToNat] at ho16; rw [← Ny143.out] at ho16)); have n0_ := Aside0.mk (Kd.R_below (kr_ HO142) hb); have n1_ := Aside0.mk (Kd.R_lower ho16 (below_size (bl1_ HB GE138))); have n2_ := Aside0.mk (blk_below (g := gb138) (bk_ BK138) hb); have n3_ := Aside0.mk (below_step (bl1_ HB GE138) hb); clear HO142; clear BK138; clear HB; have HO142 := n0_; have HO145 := n1_; have BK138 := n2_; have HB := n3_; clear n0_ n1_ n2_ n3_; clear hb ho16; obtain ⟨Ao17, co17, eo17⟩ := Kd.R_slice HO142.out; subst eo17; obtain ⟨Ao18, co18, eo18⟩ := Kd.R_slice HO145.out; subst eo18) | ((with_reducible refine gate_callee (f := 53) rfl ?_); refine goesL_ (some 18) rfl rfl Try.func53 (by kernel_rfl) rfl #[.slice Ao17 y140.length co17, .slice Ao18 y143.length co18] rfl ar_ ?_; (with_reducible refine (pdu_lay.calls _ _ y140 _ _ y143 t146 _ ?side1 ?side2 ?side3 ?side4 A4.out).mono ?_); (case side1 => exact sc_ (Kd.R_reads' HO142.out).2.2); (case side2 => exact (Kd.R_reads' HO142.out).2.1); (case side3 => exact sc_ (Kd.R_reads' HO145.out).2.2); (case side4 => exact (Kd.R_reads' HO145.out).2.1); rintro e w19 ⟨v147, rfl, ho0, hb⟩; refine ⟨_, rfl, ?_⟩; have n0_ := Aside0.mk (Kd.R_elder' (kr_ HO142) (Kd.R_base ho0) hb); have n1_ := Aside0.mk (Kd.R_below (kr_ HO145) hb); have n2_ := Aside0.mk (Kd.R_lower (Kd.R_new' ho0 (Kd.R_lt (kr_ HO142))) (below_size (bl1_ HB GE138))); have n3_ := Aside0.mk (blk_below (g := gb138) (bk_ BK138) hb); have n4_ := Aside0.mk (below_step (bl1_ HB GE138) hb); clear HO142; clear HO145; clear BK138; clear HB; have HO142 := n0_; have HO145 := n1_; have HO148 := n2_; have BK138 := n3_; have HB := n4_; clear n0_ n1_ n2_ n3_ n4_; (try clear hb); (try clear hb2); (try clear hk); (try clear hi); (try clear ho0); refine cz7_ BK138.out ?_; intro hcz20_0 hcz20_1 hcz20_2 hcz20_3 hcz20_4 hcz20_5 hcz20_6 hfz20_0 hfz20_1 hfz20_2 hfz20_3 hfz20_4 hfz20_5 hfz20_6; have p149 : 0 ≤ (0 : Int) := (by omega); have q149 : 0 < (l0_3.length : Int) := of_decide_eq_true (by first | (with_reducible assumption) | assumption); obtain ⟨ad149, e149, hx149_0⟩ := Kd.at_int HR0_3.out 0 p149 q149; cases e149; have qi149 : (0 < l0_3.length) = True := eq_true (by omega); (try rw [show ((0 : Int)).toNat = 0 from rfl] at hx149_0); (try rw [Addr.add_zero'] at hx149_0); replace hx149_0 := (HB.out.cell (World.block_lt_of_cell? w _ hx149_0)).trans hx149_0; replace p149 := eq_true p149; replace q149 := eq_true q149) | ((with_reducible refine gate_dst (N := 34) rfl ?_); refine Kd.R_lit (Kd.int .i64) _ 3 ?hg (N := 34) ?hd (xs := ([wrap64 (65280 * (rd l0_3 0))] : List Int)) (inner := [.int .i64 (wrap64 (65280 * (rd l0_3 0)))]) (ok := fun _ => True) (okp := fun _ => True) ?hr ?hp (fun _ hk => hk) trivial (Below.refl _ _) (Nat.le_refl _) (by simp) ?_; (case hd => rfl); (case hg => rfl); (case hr => first | (go_simp; done) | (go_simp; rfl)); (case hp => exact (Reps.one (show Kd.M (Kd.int .i64) _ _ _ (wrap64 (65280 * (rd l0_3 0))) [.int .i64 (wrap64 (65280 * (rd l0_3 0)))] from rfl) (Reps.none _ _))); intro v151 w21 ho22 hb hg_ hnew_; clear hg_ hnew_; (first | rw [← Ny150.out] at ho22 | (simp only [Int.reduceToNat] at ho22; rw [← Ny150.out] at ho22)); have n0_ := Aside0.mk (Kd.R_below (kr_ HO142) hb); have n1_ := Aside0.mk (Kd.R_elder' (kr_ HO145) (Kd.R_base ho22) hb); have n2_ := Aside0.mk (Kd.R_below (kr_ HO148) hb); have n3_ := Aside0.mk (Kd.R_lower (Kd.R_new' ho22 (Kd.R_lt (kr_ HO145))) (below_size (bl1_ HB GE138))); have n4_ := Aside0.mk (blk_below (g := gb138) (bk_ BK138) hb); have n5_ := Aside0.mk (below_step (bl1_ HB GE138) hb); clear HO142; clear HO145; clear HO148; clear BK138; clear HB; have HO142 := n0_; have HO145 := n1_; have HO148 := n2_; have HO152 := n3_; have BK138 := n4_; have HB := n5_; clear n0_ n1_ n2_ n3_ n4_ n5_; clear hb ho22; obtain ⟨Ao23, co23, eo23⟩ := Kd.R_slice HO148.out; subst eo23; obtain ⟨Ao24, co24, eo24⟩ := Kd.R_slice HO152.out; subst eo24) | ((with_reducible refine gate_callee (f := 53) rfl ?_); refine goesL_ (some 35) rfl rfl Try.func53 (by kernel_rfl) rfl #[.slice Ao23 t146.length co23, .slice Ao24 y150.length co24] rfl ar_ ?_; (with_reducible refine (pdu_lay.calls _ _ t146 _ _ y150 t153 _ ?side1 ?side2 ?side3 ?side4 A7.out).mono ?_); (case side1 => exact sc_ (Kd.R_reads' HO148.out).2.2); (case side2 => exact (Kd.R_reads' HO148.out).2.1); (case side3 => exact sc_ (Kd.R_reads' HO152.out).2.2); (case side4 => exact (Kd.R_reads' HO152.out).2.1); rintro e w25 ⟨v154, rfl, ho0, hb⟩; refine ⟨_, rfl, ?_⟩; have n0_ := Aside0.mk (Kd.R_elder' (kr_ HO142) (Kd.R_base ho0) hb); have n1_ := Aside0.mk (Kd.R_below (kr_ HO145) hb); have n2_ := Aside0.mk (Kd.R_elder' (kr_ HO148) (Kd.R_base ho0) hb); have n3_ := Aside0.mk (Kd.R_below (kr_ HO152) hb); have n4_ := Aside0.mk (Kd.R_lower (Kd.R_new' (Kd.R_new' ho0 (Kd.R_lt (kr_ HO142))) (Kd.R_lt (kr_ HO148))) (below_size (bl1_ HB GE138))); have n5_ := Aside0.mk (blk_below (g := gb138) (bk_ BK138) hb); have n6_ := Aside0.mk (below_step (bl1_ HB GE138) hb); clear HO142; clear HO145; clear HO148; clear HO152; clear BK138; clear HB; have HO142 := n0_; have HO145 := n1_; have HO148 := n2_; have HO152 := n3_; have HO155 := n4_; have BK138 := n5_; have HB := n6_; clear n0_ n1_ n2_ n3_ n4_ n5_ n6_; (try clear hb); (try clear hb2); (try clear hk); (try clear hi); (try clear ho0)))
    go_ret2
    exact ⟨_, er_, by (with_reducible repeat (first | apply Kd.R_alloc | apply Kd.R_drewN | apply Kd.R_drew)); exact Kd.R_mono HO155.out (fun _ hk => trivial), bl1_ HB GE138⟩
   ·rw [if_neg c6] at H
    exact absurd H (by simp)
  ·rw [if_neg c5] at H
   have c5b0 : (a0_0 == 5) = false := beq_eq_false_iff_ne.mpr c5
   have c5b1 : (a0_0 != 5) = true := bne_iff_ne.mpr c5
   by_cases c26 : a0_0 = 6
   ·rw [if_pos c26] at H
    have c26b0 : (a0_0 == 6) = true := beq_iff_eq.mpr c26
    have c26b1 : (a0_0 != 6) = false := bne_eq_false_iff_eq.mpr c26
    clear c26
    by_cases c27 : 0 < (l0_3.length : Int)
    ·rw [if_pos c27] at H
     have c27b0 : decide (0 < (l0_3.length : Int)) = true := decide_eq_true c27
     have c27b1 : decide (0 < l0_3.length) = true := decide_eq_true (by omega)
     clear c27
     obtain ⟨y157, hy157⟩ : ∃ y_ : List Int, y_ = (([rd l0_3 0] : List Int)) := ⟨_, rfl⟩
     replace H : ((pdu_lay.f t146 y157).bind fun t160 => (some (t160, 0))) = some (r1, r2) := by first | (rw [hy157]; with_reducible exact H) | (have H2_ := (Option.bind_some _ _).symm.trans H; rw [hy157]; with_reducible exact H2_) | (have H2_ := (Option.bind_some _ _).symm.trans H; with_reducible exact H2_) | with_reducible exact H | (rw [hy157]; exact H) | exact H
     have Ny157 := Aside0.mk hy157
     clear hy157
     replace H := Option.bind_eq_some_iff.mp H
     obtain ⟨t160, A280, H⟩ := H
     replace H : (some (t160, 0)) = some (r1, r2) := H
     have A28 := Aside0.mk A280
     clear A280
     simp only [Option.some.injEq, Prod.mk.injEq] at H
     obtain ⟨rfl, rfl⟩ := H
     go_enter Try.func30, Try.ntmps30
     go_wp2_with (first | ((with_reducible refine gate_dst (N := 1) rfl ?_); refine bx_ (N := 1) (cs := #[.int .i64 a0_0, .int .i64 a0_1, .int .i64 a0_2, .slice A0_3 l0_3.length c0_3, .int .i64 a0_4, .int .i64 a0_5, .int .i64 a0_6]) (t := 24) ?_; intro gb138 hg w29 hbox hb; have n0_ := Aside0.mk (below_step (bl0_ HB) hb); have n1_ := Aside0.mk (hbox); have n2_ := Aside0.mk ((by rw [hg]; exact (below_size (bl0_ HB)) : w.heap.size ≤ gb138)); have n3_ := Aside0.mk ((by rw [hg]; exact (below_size (bl0_ HB)) : w.heap.size ≤ gb138)); clear HB; have HB := n0_; have BK138 := n1_; have GW138 := n2_; have GE138 := n3_; clear n0_ n1_ n2_ n3_; clear hb hbox hg; refine cz7_ BK138.out ?_; intro hcz30_0 hcz30_1 hcz30_2 hcz30_3 hcz30_4 hcz30_5 hcz30_6 hfz30_0 hfz30_1 hfz30_2 hfz30_3 hfz30_4 hfz30_5 hfz30_6) | ((with_reducible refine gate_callee (f := 29) rfl ?_); refine goesL_ (some 7) rfl rfl Try.func29 (by kernel_rfl) rfl #[.agg #[.int .i64 a0_0, .int .i64 a0_1, .int .i64 a0_2, .slice A0_3 l0_3.length c0_3, .int .i64 a0_4, .int .i64 a0_5, .int .i64 a0_6]] rfl ar_ ?_; (with_reducible refine (pdu_Check.calls k a0_0 a0_1 a0_2 _ _ l0_3 a0_4 a0_5 a0_6 t139 _ ?side1 ?side2 A2.out).mono ?_); (case side1 => exact sc_ (Kd.C_below HR0_3.out HB.out)); (case side2 => exact HC0_3.out); rintro e w31 ⟨rfl, hb⟩; refine ⟨_, rfl, ?_⟩; have n0_ := Aside0.mk (blk_below (g := gb138) (bk_ BK138) hb); have n1_ := Aside0.mk (below_step (bl1_ HB GE138) hb); clear BK138; clear HB; have BK138 := n0_; have HB := n1_; clear n0_ n1_; (try clear hb); (try clear hb2); (try clear hk); (try clear hi); refine cz7_ BK138.out ?_; intro hcz32_0 hcz32_1 hcz32_2 hcz32_3 hcz32_4 hcz32_5 hcz32_6 hfz32_0 hfz32_1 hfz32_2 hfz32_3 hfz32_4 hfz32_5 hfz32_6) | ((with_reducible refine gate_dst (N := 14) rfl ?_); refine Kd.R_lit (Kd.int .u8) _ 5 ?hg (N := 14) ?hd (xs := ([(a0_0) % 256] : List Int)) (inner := [.int .u8 ((a0_0) % 256)]) (ok := fun _ => True) (okp := fun _ => True) ?hr ?hp (fun _ hk => hk) trivial (Below.refl _ _) (Nat.le_refl _) (by simp) ?_; (case hd => rfl); (case hg => rfl); (case hr => first | (go_simp; done) | (go_simp; rfl)); (case hp => exact (Reps.one (show Kd.M (Kd.int .u8) _ _ _ ((a0_0) % 256) [.int .u8 ((a0_0) % 256)] from rfl) (Reps.none _ _))); intro v141 w33 ho34 hb hg_ hnew_; clear hg_ hnew_; (first | rw [← Ny140.out] at ho34 | (simp only [Int.reduceToNat] at ho34; rw [← Ny140.out] at ho34)); have n0_ := Aside0.mk (Kd.R_lower ho34 (below_size (bl1_ HB GE138))); have n1_ := Aside0.mk (blk_below (g := gb138) (bk_ BK138) hb); have n2_ := Aside0.mk (below_step (bl1_ HB GE138) hb); clear BK138; clear HB; have HO142 := n0_; have BK138 := n1_; have HB := n2_; clear n0_ n1_ n2_; clear hb ho34; refine cz7_ BK138.out ?_; intro hcz35_0 hcz35_1 hcz35_2 hcz35_3 hcz35_4 hcz35_5 hcz35_6 hfz35_0 hfz35_1 hfz35_2 hfz35_3 hfz35_4 hfz35_5 hfz35_6) | ((with_reducible refine gate_dst (N := 17) rfl ?_); refine Kd.R_lit (Kd.int .i64) _ 3 ?hg (N := 17) ?hd (xs := ([a0_1] : List Int)) (inner := [.int .i64 a0_1]) (ok := fun _ => True) (okp := fun _ => True) ?hr ?hp (fun _ hk => hk) trivial (Below.refl _ _) (Nat.le_refl _) (by simp) ?_; (case hd => rfl); (case hg => rfl); (case hr => first | (go_simp; done) | (go_simp; rfl)); (case hp => exact (Reps.one (show Kd.M (Kd.int .i64) _ _ _ a0_1 [.int .i64 a0_1] from rfl) (Reps.none _ _))); intro v144 w36 ho37 hb hg_ hnew_; clear hg_ hnew_; (first | rw [← Ny143.out] at ho37 | (simp only [Int.reduceToNat] at ho37; rw [← Ny143.out] at ho37)); have n0_ := Aside0.mk (Kd.R_below (kr_ HO142) hb); have n1_ := Aside0.mk (Kd.R_lower ho37 (below_size (bl1_ HB GE138))); have n2_ := Aside0.mk (blk_below (g := gb138) (bk_ BK138) hb); have n3_ := Aside0.mk (below_step (bl1_ HB GE138) hb); clear HO142; clear BK138; clear HB; have HO142 := n0_; have HO145 := n1_; have BK138 := n2_; have HB := n3_; clear n0_ n1_ n2_ n3_; clear hb ho37; obtain ⟨Ao38, co38, eo38⟩ := Kd.R_slice HO142.out; subst eo38; obtain ⟨Ao39, co39, eo39⟩ := Kd.R_slice HO145.out; subst eo39) | ((with_reducible refine gate_callee (f := 53) rfl ?_); refine goesL_ (some 18) rfl rfl Try.func53 (by kernel_rfl) rfl #[.slice Ao38 y140.length co38, .slice Ao39 y143.length co39] rfl ar_ ?_; (with_reducible refine (pdu_lay.calls _ _ y140 _ _ y143 t146 _ ?side1 ?side2 ?side3 ?side4 A4.out).mono ?_); (case side1 => exact sc_ (Kd.R_reads' HO142.out).2.2); (case side2 => exact (Kd.R_reads' HO142.out).2.1); (case side3 => exact sc_ (Kd.R_reads' HO145.out).2.2); (case side4 => exact (Kd.R_reads' HO145.out).2.1); rintro e w40 ⟨v147, rfl, ho0, hb⟩; refine ⟨_, rfl, ?_⟩; have n0_ := Aside0.mk (Kd.R_elder' (kr_ HO142) (Kd.R_base ho0) hb); have n1_ := Aside0.mk (Kd.R_below (kr_ HO145) hb); have n2_ := Aside0.mk (Kd.R_lower (Kd.R_new' ho0 (Kd.R_lt (kr_ HO142))) (below_size (bl1_ HB GE138))); have n3_ := Aside0.mk (blk_below (g := gb138) (bk_ BK138) hb); have n4_ := Aside0.mk (below_step (bl1_ HB GE138) hb); clear HO142; clear HO145; clear BK138; clear HB; have HO142 := n0_; have HO145 := n1_; have HO148 := n2_; have BK138 := n3_; have HB := n4_; clear n0_ n1_ n2_ n3_ n4_; (try clear hb); (try clear hb2); (try clear hk); (try clear hi); (try clear ho0); refine cz7_ BK138.out ?_; intro hcz41_0 hcz41_1 hcz41_2 hcz41_3 hcz41_4 hcz41_5 hcz41_6 hfz41_0 hfz41_1 hfz41_2 hfz41_3 hfz41_4 hfz41_5 hfz41_6; have p156 : 0 ≤ (0 : Int) := (by omega); have q156 : 0 < (l0_3.length : Int) := of_decide_eq_true (by first | (with_reducible assumption) | assumption); obtain ⟨ad156, e156, hx156_0⟩ := Kd.at_int HR0_3.out 0 p156 q156; cases e156; have qi156 : (0 < l0_3.length) = True := eq_true (by omega); (try rw [show ((0 : Int)).toNat = 0 from rfl] at hx156_0); (try rw [Addr.add_zero'] at hx156_0); replace hx156_0 := (HB.out.cell (World.block_lt_of_cell? w _ hx156_0)).trans hx156_0; replace p156 := eq_true p156; replace q156 := eq_true q156) | ((with_reducible refine gate_dst (N := 43) rfl ?_); refine Kd.R_lit (Kd.int .i64) _ 3 ?hg (N := 43) ?hd (xs := ([rd l0_3 0] : List Int)) (inner := [.int .i64 (rd l0_3 0)]) (ok := fun _ => True) (okp := fun _ => True) ?hr ?hp (fun _ hk => hk) trivial (Below.refl _ _) (Nat.le_refl _) (by simp) ?_; (case hd => rfl); (case hg => rfl); (case hr => first | (go_simp; done) | (go_simp; rfl)); (case hp => exact (Reps.one (show Kd.M (Kd.int .i64) _ _ _ (rd l0_3 0) [.int .i64 (rd l0_3 0)] from rfl) (Reps.none _ _))); intro v158 w42 ho43 hb hg_ hnew_; clear hg_ hnew_; (first | rw [← Ny157.out] at ho43 | (simp only [Int.reduceToNat] at ho43; rw [← Ny157.out] at ho43)); have n0_ := Aside0.mk (Kd.R_below (kr_ HO142) hb); have n1_ := Aside0.mk (Kd.R_elder' (kr_ HO145) (Kd.R_base ho43) hb); have n2_ := Aside0.mk (Kd.R_below (kr_ HO148) hb); have n3_ := Aside0.mk (Kd.R_lower (Kd.R_new' ho43 (Kd.R_lt (kr_ HO145))) (below_size (bl1_ HB GE138))); have n4_ := Aside0.mk (blk_below (g := gb138) (bk_ BK138) hb); have n5_ := Aside0.mk (below_step (bl1_ HB GE138) hb); clear HO142; clear HO145; clear HO148; clear BK138; clear HB; have HO142 := n0_; have HO145 := n1_; have HO148 := n2_; have HO159 := n3_; have BK138 := n4_; have HB := n5_; clear n0_ n1_ n2_ n3_ n4_ n5_; clear hb ho43; obtain ⟨Ao44, co44, eo44⟩ := Kd.R_slice HO148.out; subst eo44; obtain ⟨Ao45, co45, eo45⟩ := Kd.R_slice HO159.out; subst eo45) | ((with_reducible refine gate_callee (f := 53) rfl ?_); refine goesL_ (some 44) rfl rfl Try.func53 (by kernel_rfl) rfl #[.slice Ao44 t146.length co44, .slice Ao45 y157.length co45] rfl ar_ ?_; (with_reducible refine (pdu_lay.calls _ _ t146 _ _ y157 t160 _ ?side1 ?side2 ?side3 ?side4 A28.out).mono ?_); (case side1 => exact sc_ (Kd.R_reads' HO148.out).2.2); (case side2 => exact (Kd.R_reads' HO148.out).2.1); (case side3 => exact sc_ (Kd.R_reads' HO159.out).2.2); (case side4 => exact (Kd.R_reads' HO159.out).2.1); rintro e w46 ⟨v161, rfl, ho0, hb⟩; refine ⟨_, rfl, ?_⟩; have n0_ := Aside0.mk (Kd.R_elder' (kr_ HO142) (Kd.R_base ho0) hb); have n1_ := Aside0.mk (Kd.R_below (kr_ HO145) hb); have n2_ := Aside0.mk (Kd.R_elder' (kr_ HO148) (Kd.R_base ho0) hb); have n3_ := Aside0.mk (Kd.R_below (kr_ HO159) hb); have n4_ := Aside0.mk (Kd.R_lower (Kd.R_new' (Kd.R_new' ho0 (Kd.R_lt (kr_ HO142))) (Kd.R_lt (kr_ HO148))) (below_size (bl1_ HB GE138))); have n5_ := Aside0.mk (blk_below (g := gb138) (bk_ BK138) hb); have n6_ := Aside0.mk (below_step (bl1_ HB GE138) hb); clear HO142; clear HO145; clear HO148; clear HO159; clear BK138; clear HB; have HO142 := n0_; have HO145 := n1_; have HO148 := n2_; have HO159 := n3_; have HO162 := n4_; have BK138 := n5_; have HB := n6_; clear n0_ n1_ n2_ n3_ n4_ n5_ n6_; (try clear hb); (try clear hb2); (try clear hk); (try clear hi); (try clear ho0)))
     go_ret2
     exact ⟨_, er_, by (with_reducible repeat (first | apply Kd.R_alloc | apply Kd.R_drewN | apply Kd.R_drew)); exact Kd.R_mono HO162.out (fun _ hk => trivial), bl1_ HB GE138⟩
    ·rw [if_neg c27] at H
     exact absurd H (by simp)
   ·rw [if_neg c26] at H
    have c26b0 : (a0_0 == 6) = false := beq_eq_false_iff_ne.mpr c26
    have c26b1 : (a0_0 != 6) = true := bne_iff_ne.mpr c26
    by_cases c47 : a0_0 = 22
    ·rw [if_pos c47] at H
     have c47b0 : (a0_0 == 22) = true := beq_iff_eq.mpr c47
     have c47b1 : (a0_0 != 22) = false := bne_eq_false_iff_eq.mpr c47
     clear c47
     obtain ⟨y163, hy163⟩ : ∃ y_ : List Int, y_ = (([a0_5, a0_6] : List Int)) := ⟨_, rfl⟩
     replace H : ((pdu_lay.f t146 y163).bind fun t166 => (some (t166, 0))) = some (r1, r2) := by first | (rw [hy163]; with_reducible exact H) | (have H2_ := (Option.bind_some _ _).symm.trans H; rw [hy163]; with_reducible exact H2_) | (have H2_ := (Option.bind_some _ _).symm.trans H; with_reducible exact H2_) | with_reducible exact H | (rw [hy163]; exact H) | exact H
     have Ny163 := Aside0.mk hy163
     clear hy163
     replace H := Option.bind_eq_some_iff.mp H
     obtain ⟨t166, A480, H⟩ := H
     replace H : (some (t166, 0)) = some (r1, r2) := H
     have A48 := Aside0.mk A480
     clear A480
     simp only [Option.some.injEq, Prod.mk.injEq] at H
     obtain ⟨rfl, rfl⟩ := H
     go_enter Try.func30, Try.ntmps30
     go_wp2_with (first | ((with_reducible refine gate_dst (N := 1) rfl ?_); refine bx_ (N := 1) (cs := #[.int .i64 a0_0, .int .i64 a0_1, .int .i64 a0_2, .slice A0_3 l0_3.length c0_3, .int .i64 a0_4, .int .i64 a0_5, .int .i64 a0_6]) (t := 24) ?_; intro gb138 hg w49 hbox hb; have n0_ := Aside0.mk (below_step (bl0_ HB) hb); have n1_ := Aside0.mk (hbox); have n2_ := Aside0.mk ((by rw [hg]; exact (below_size (bl0_ HB)) : w.heap.size ≤ gb138)); have n3_ := Aside0.mk ((by rw [hg]; exact (below_size (bl0_ HB)) : w.heap.size ≤ gb138)); clear HB; have HB := n0_; have BK138 := n1_; have GW138 := n2_; have GE138 := n3_; clear n0_ n1_ n2_ n3_; clear hb hbox hg; refine cz7_ BK138.out ?_; intro hcz50_0 hcz50_1 hcz50_2 hcz50_3 hcz50_4 hcz50_5 hcz50_6 hfz50_0 hfz50_1 hfz50_2 hfz50_3 hfz50_4 hfz50_5 hfz50_6) | ((with_reducible refine gate_callee (f := 29) rfl ?_); refine goesL_ (some 7) rfl rfl Try.func29 (by kernel_rfl) rfl #[.agg #[.int .i64 a0_0, .int .i64 a0_1, .int .i64 a0_2, .slice A0_3 l0_3.length c0_3, .int .i64 a0_4, .int .i64 a0_5, .int .i64 a0_6]] rfl ar_ ?_; (with_reducible refine (pdu_Check.calls k a0_0 a0_1 a0_2 _ _ l0_3 a0_4 a0_5 a0_6 t139 _ ?side1 ?side2 A2.out).mono ?_); (case side1 => exact sc_ (Kd.C_below HR0_3.out HB.out)); (case side2 => exact HC0_3.out); rintro e w51 ⟨rfl, hb⟩; refine ⟨_, rfl, ?_⟩; have n0_ := Aside0.mk (blk_below (g := gb138) (bk_ BK138) hb); have n1_ := Aside0.mk (below_step (bl1_ HB GE138) hb); clear BK138; clear HB; have BK138 := n0_; have HB := n1_; clear n0_ n1_; (try clear hb); (try clear hb2); (try clear hk); (try clear hi); refine cz7_ BK138.out ?_; intro hcz52_0 hcz52_1 hcz52_2 hcz52_3 hcz52_4 hcz52_5 hcz52_6 hfz52_0 hfz52_1 hfz52_2 hfz52_3 hfz52_4 hfz52_5 hfz52_6) | ((with_reducible refine gate_dst (N := 14) rfl ?_); refine Kd.R_lit (Kd.int .u8) _ 5 ?hg (N := 14) ?hd (xs := ([(a0_0) % 256] : List Int)) (inner := [.int .u8 ((a0_0) % 256)]) (ok := fun _ => True) (okp := fun _ => True) ?hr ?hp (fun _ hk => hk) trivial (Below.refl _ _) (Nat.le_refl _) (by simp) ?_; (case hd => rfl); (case hg => rfl); (case hr => first | (go_simp; done) | (go_simp; rfl)); (case hp => exact (Reps.one (show Kd.M (Kd.int .u8) _ _ _ ((a0_0) % 256) [.int .u8 ((a0_0) % 256)] from rfl) (Reps.none _ _))); intro v141 w53 ho54 hb hg_ hnew_; clear hg_ hnew_; (first | rw [← Ny140.out] at ho54 | (simp only [Int.reduceToNat] at ho54; rw [← Ny140.out] at ho54)); have n0_ := Aside0.mk (Kd.R_lower ho54 (below_size (bl1_ HB GE138))); have n1_ := Aside0.mk (blk_below (g := gb138) (bk_ BK138) hb); have n2_ := Aside0.mk (below_step (bl1_ HB GE138) hb); clear BK138; clear HB; have HO142 := n0_; have BK138 := n1_; have HB := n2_; clear n0_ n1_ n2_; clear hb ho54; refine cz7_ BK138.out ?_; intro hcz55_0 hcz55_1 hcz55_2 hcz55_3 hcz55_4 hcz55_5 hcz55_6 hfz55_0 hfz55_1 hfz55_2 hfz55_3 hfz55_4 hfz55_5 hfz55_6) | ((with_reducible refine gate_dst (N := 17) rfl ?_); refine Kd.R_lit (Kd.int .i64) _ 3 ?hg (N := 17) ?hd (xs := ([a0_1] : List Int)) (inner := [.int .i64 a0_1]) (ok := fun _ => True) (okp := fun _ => True) ?hr ?hp (fun _ hk => hk) trivial (Below.refl _ _) (Nat.le_refl _) (by simp) ?_; (case hd => rfl); (case hg => rfl); (case hr => first | (go_simp; done) | (go_simp; rfl)); (case hp => exact (Reps.one (show Kd.M (Kd.int .i64) _ _ _ a0_1 [.int .i64 a0_1] from rfl) (Reps.none _ _))); intro v144 w56 ho57 hb hg_ hnew_; clear hg_ hnew_; (first | rw [← Ny143.out] at ho57 | (simp only [Int.reduceToNat] at ho57; rw [← Ny143.out] at ho57)); have n0_ := Aside0.mk (Kd.R_below (kr_ HO142) hb); have n1_ := Aside0.mk (Kd.R_lower ho57 (below_size (bl1_ HB GE138))); have n2_ := Aside0.mk (blk_below (g := gb138) (bk_ BK138) hb); have n3_ := Aside0.mk (below_step (bl1_ HB GE138) hb); clear HO142; clear BK138; clear HB; have HO142 := n0_; have HO145 := n1_; have BK138 := n2_; have HB := n3_; clear n0_ n1_ n2_ n3_; clear hb ho57; obtain ⟨Ao58, co58, eo58⟩ := Kd.R_slice HO142.out; subst eo58; obtain ⟨Ao59, co59, eo59⟩ := Kd.R_slice HO145.out; subst eo59) | ((with_reducible refine gate_callee (f := 53) rfl ?_); refine goesL_ (some 18) rfl rfl Try.func53 (by kernel_rfl) rfl #[.slice Ao58 y140.length co58, .slice Ao59 y143.length co59] rfl ar_ ?_; (with_reducible refine (pdu_lay.calls _ _ y140 _ _ y143 t146 _ ?side1 ?side2 ?side3 ?side4 A4.out).mono ?_); (case side1 => exact sc_ (Kd.R_reads' HO142.out).2.2); (case side2 => exact (Kd.R_reads' HO142.out).2.1); (case side3 => exact sc_ (Kd.R_reads' HO145.out).2.2); (case side4 => exact (Kd.R_reads' HO145.out).2.1); rintro e w60 ⟨v147, rfl, ho0, hb⟩; refine ⟨_, rfl, ?_⟩; have n0_ := Aside0.mk (Kd.R_elder' (kr_ HO142) (Kd.R_base ho0) hb); have n1_ := Aside0.mk (Kd.R_below (kr_ HO145) hb); have n2_ := Aside0.mk (Kd.R_lower (Kd.R_new' ho0 (Kd.R_lt (kr_ HO142))) (below_size (bl1_ HB GE138))); have n3_ := Aside0.mk (blk_below (g := gb138) (bk_ BK138) hb); have n4_ := Aside0.mk (below_step (bl1_ HB GE138) hb); clear HO142; clear HO145; clear BK138; clear HB; have HO142 := n0_; have HO145 := n1_; have HO148 := n2_; have BK138 := n3_; have HB := n4_; clear n0_ n1_ n2_ n3_ n4_; (try clear hb); (try clear hb2); (try clear hk); (try clear hi); (try clear ho0); refine cz7_ BK138.out ?_; intro hcz61_0 hcz61_1 hcz61_2 hcz61_3 hcz61_4 hcz61_5 hcz61_6 hfz61_0 hfz61_1 hfz61_2 hfz61_3 hfz61_4 hfz61_5 hfz61_6) | ((with_reducible refine gate_dst (N := 52) rfl ?_); refine Kd.R_lit (Kd.int .i64) _ 3 ?hg (N := 52) ?hd (xs := ([a0_5, a0_6] : List Int)) (inner := [.int .i64 a0_5, .int .i64 a0_6]) (ok := fun _ => True) (okp := fun _ => True) ?hr ?hp (fun _ hk => hk) trivial (Below.refl _ _) (Nat.le_refl _) (by simp) ?_; (case hd => rfl); (case hg => rfl); (case hr => first | (go_simp; done) | (go_simp; rfl)); (case hp => exact (Reps.one (show Kd.M (Kd.int .i64) _ _ _ a0_5 [.int .i64 a0_5] from rfl) (Reps.one (show Kd.M (Kd.int .i64) _ _ _ a0_6 [.int .i64 a0_6] from rfl) (Reps.none _ _)))); intro v164 w62 ho63 hb hg_ hnew_; clear hg_ hnew_; (first | rw [← Ny163.out] at ho63 | (simp only [Int.reduceToNat] at ho63; rw [← Ny163.out] at ho63)); have n0_ := Aside0.mk (Kd.R_below (kr_ HO142) hb); have n1_ := Aside0.mk (Kd.R_elder' (kr_ HO145) (Kd.R_base ho63) hb); have n2_ := Aside0.mk (Kd.R_below (kr_ HO148) hb); have n3_ := Aside0.mk (Kd.R_lower (Kd.R_new' ho63 (Kd.R_lt (kr_ HO145))) (below_size (bl1_ HB GE138))); have n4_ := Aside0.mk (blk_below (g := gb138) (bk_ BK138) hb); have n5_ := Aside0.mk (below_step (bl1_ HB GE138) hb); clear HO142; clear HO145; clear HO148; clear BK138; clear HB; have HO142 := n0_; have HO145 := n1_; have HO148 := n2_; have HO165 := n3_; have BK138 := n4_; have HB := n5_; clear n0_ n1_ n2_ n3_ n4_ n5_; clear hb ho63; obtain ⟨Ao64, co64, eo64⟩ := Kd.R_slice HO148.out; subst eo64; obtain ⟨Ao65, co65, eo65⟩ := Kd.R_slice HO165.out; subst eo65) | ((with_reducible refine gate_callee (f := 53) rfl ?_); refine goesL_ (some 53) rfl rfl Try.func53 (by kernel_rfl) rfl #[.slice Ao64 t146.length co64, .slice Ao65 y163.length co65] rfl ar_ ?_; (with_reducible refine (pdu_lay.calls _ _ t146 _ _ y163 t166 _ ?side1 ?side2 ?side3 ?side4 A48.out).mono ?_); (case side1 => exact sc_ (Kd.R_reads' HO148.out).2.2); (case side2 => exact (Kd.R_reads' HO148.out).2.1); (case side3 => exact sc_ (Kd.R_reads' HO165.out).2.2); (case side4 => exact (Kd.R_reads' HO165.out).2.1); rintro e w66 ⟨v167, rfl, ho0, hb⟩; refine ⟨_, rfl, ?_⟩; have n0_ := Aside0.mk (Kd.R_elder' (kr_ HO142) (Kd.R_base ho0) hb); have n1_ := Aside0.mk (Kd.R_below (kr_ HO145) hb); have n2_ := Aside0.mk (Kd.R_elder' (kr_ HO148) (Kd.R_base ho0) hb); have n3_ := Aside0.mk (Kd.R_below (kr_ HO165) hb); have n4_ := Aside0.mk (Kd.R_lower (Kd.R_new' (Kd.R_new' ho0 (Kd.R_lt (kr_ HO142))) (Kd.R_lt (kr_ HO148))) (below_size (bl1_ HB GE138))); have n5_ := Aside0.mk (blk_below (g := gb138) (bk_ BK138) hb); have n6_ := Aside0.mk (below_step (bl1_ HB GE138) hb); clear HO142; clear HO145; clear HO148; clear HO165; clear BK138; clear HB; have HO142 := n0_; have HO145 := n1_; have HO148 := n2_; have HO165 := n3_; have HO168 := n4_; have BK138 := n5_; have HB := n6_; clear n0_ n1_ n2_ n3_ n4_ n5_ n6_; (try clear hb); (try clear hb2); (try clear hk); (try clear hi); (try clear ho0)))
     go_ret2
     exact ⟨_, er_, by (with_reducible repeat (first | apply Kd.R_alloc | apply Kd.R_drewN | apply Kd.R_drew)); exact Kd.R_mono HO168.out (fun _ hk => trivial), bl1_ HB GE138⟩
    ·rw [if_neg c47] at H
     have c47b0 : (a0_0 == 22) = false := beq_eq_false_iff_ne.mpr c47
     have c47b1 : (a0_0 != 22) = true := bne_iff_ne.mpr c47
     by_cases c67 : a0_0 = 15
     ·rw [if_pos c67] at H
      have c67b0 : (a0_0 == 15) = true := beq_iff_eq.mpr c67
      have c67b1 : (a0_0 != 15) = false := bne_eq_false_iff_eq.mpr c67
      clear c67
      obtain ⟨y169, hy169⟩ : ∃ y_ : List Int, y_ = (([a0_2] : List Int)) := ⟨_, rfl⟩
      replace H : ((pdu_lay.f t146 y169).bind fun t172 => ((pdu_packed.f k l0_3).bind fun t175 => ((pdu_counted.f t172 t175).bind fun t178 => (some (t178, 0))))) = some (r1, r2) := by first | (rw [hy169]; with_reducible exact H) | (have H2_ := (Option.bind_some _ _).symm.trans H; rw [hy169]; with_reducible exact H2_) | (have H2_ := (Option.bind_some _ _).symm.trans H; with_reducible exact H2_) | with_reducible exact H | (rw [hy169]; exact H) | exact H
      have Ny169 := Aside0.mk hy169
      clear hy169
      replace H := Option.bind_eq_some_iff.mp H
      obtain ⟨t172, A680, H⟩ := H
      replace H : ((pdu_packed.f k l0_3).bind fun t175 => ((pdu_counted.f t172 t175).bind fun t178 => (some (t178, 0)))) = some (r1, r2) := H
      have A68 := Aside0.mk A680
      clear A680
      replace H := Option.bind_eq_some_iff.mp H
      obtain ⟨t175, A690, H⟩ := H
      replace H : ((pdu_counted.f t172 t175).bind fun t178 => (some (t178, 0))) = some (r1, r2) := H
      have A69 := Aside0.mk A690
      clear A690
      replace H := Option.bind_eq_some_iff.mp H
      obtain ⟨t178, A700, H⟩ := H
      replace H : (some (t178, 0)) = some (r1, r2) := H
      have A70 := Aside0.mk A700
      clear A700
      simp only [Option.some.injEq, Prod.mk.injEq] at H
      obtain ⟨rfl, rfl⟩ := H
      go_enter Try.func30, Try.ntmps30
      try go_wp2_with (first | ((with_reducible refine gate_dst (N := 1) rfl ?_); refine bx_ (N := 1) (cs := #[.int .i64 a0_0, .int .i64 a0_1, .int .i64 a0_2, .slice A0_3 l0_3.length c0_3, .int .i64 a0_4, .int .i64 a0_5, .int .i64 a0_6]) (t := 24) ?_; intro gb138 hg w71 hbox hb; have n0_ := Aside0.mk (below_step (bl0_ HB) hb); have n1_ := Aside0.mk (hbox); have n2_ := Aside0.mk ((by rw [hg]; exact (below_size (bl0_ HB)) : w.heap.size ≤ gb138)); have n3_ := Aside0.mk ((by rw [hg]; exact (below_size (bl0_ HB)) : w.heap.size ≤ gb138)); clear HB; have HB := n0_; have BK138 := n1_; have GW138 := n2_; have GE138 := n3_; clear n0_ n1_ n2_ n3_; clear hb hbox hg; refine cz7_ BK138.out ?_; intro hcz72_0 hcz72_1 hcz72_2 hcz72_3 hcz72_4 hcz72_5 hcz72_6 hfz72_0 hfz72_1 hfz72_2 hfz72_3 hfz72_4 hfz72_5 hfz72_6) | ((with_reducible refine gate_callee (f := 29) rfl ?_); refine goesL_ (some 7) rfl rfl Try.func29 (by kernel_rfl) rfl #[.agg #[.int .i64 a0_0, .int .i64 a0_1, .int .i64 a0_2, .slice A0_3 l0_3.length c0_3, .int .i64 a0_4, .int .i64 a0_5, .int .i64 a0_6]] rfl ar_ ?_; (with_reducible refine (pdu_Check.calls k a0_0 a0_1 a0_2 _ _ l0_3 a0_4 a0_5 a0_6 t139 _ ?side1 ?side2 A2.out).mono ?_); (case side1 => exact sc_ (Kd.C_below HR0_3.out HB.out)); (case side2 => exact HC0_3.out); rintro e w73 ⟨rfl, hb⟩; refine ⟨_, rfl, ?_⟩; have n0_ := Aside0.mk (blk_below (g := gb138) (bk_ BK138) hb); have n1_ := Aside0.mk (below_step (bl1_ HB GE138) hb); clear BK138; clear HB; have BK138 := n0_; have HB := n1_; clear n0_ n1_; (try clear hb); (try clear hb2); (try clear hk); (try clear hi); refine cz7_ BK138.out ?_; intro hcz74_0 hcz74_1 hcz74_2 hcz74_3 hcz74_4 hcz74_5 hcz74_6 hfz74_0 hfz74_1 hfz74_2 hfz74_3 hfz74_4 hfz74_5 hfz74_6) | ((with_reducible refine gate_dst (N := 14) rfl ?_); refine Kd.R_lit (Kd.int .u8) _ 5 ?hg (N := 14) ?hd (xs := ([(a0_0) % 256] : List Int)) (inner := [.int .u8 ((a0_0) % 256)]) (ok := fun _ => True) (okp := fun _ => True) ?hr ?hp (fun _ hk => hk) trivial (Below.refl _ _) (Nat.le_refl _) (by simp) ?_; (case hd => rfl); (case hg => rfl); (case hr => first | (go_simp; done) | (go_simp; rfl)); (case hp => exact (Reps.one (show Kd.M (Kd.int .u8) _ _ _ ((a0_0) % 256) [.int .u8 ((a0_0) % 256)] from rfl) (Reps.none _ _))); intro v141 w75 ho76 hb hg_ hnew_; clear hg_ hnew_; (first | rw [← Ny140.out] at ho76 | (simp only [Int.reduceToNat] at ho76; rw [← Ny140.out] at ho76)); have n0_ := Aside0.mk (Kd.R_lower ho76 (below_size (bl1_ HB GE138))); have n1_ := Aside0.mk (blk_below (g := gb138) (bk_ BK138) hb); have n2_ := Aside0.mk (below_step (bl1_ HB GE138) hb); clear BK138; clear HB; have HO142 := n0_; have BK138 := n1_; have HB := n2_; clear n0_ n1_ n2_; clear hb ho76; refine cz7_ BK138.out ?_; intro hcz77_0 hcz77_1 hcz77_2 hcz77_3 hcz77_4 hcz77_5 hcz77_6 hfz77_0 hfz77_1 hfz77_2 hfz77_3 hfz77_4 hfz77_5 hfz77_6) | ((with_reducible refine gate_dst (N := 17) rfl ?_); refine Kd.R_lit (Kd.int .i64) _ 3 ?hg (N := 17) ?hd (xs := ([a0_1] : List Int)) (inner := [.int .i64 a0_1]) (ok := fun _ => True) (okp := fun _ => True) ?hr ?hp (fun _ hk => hk) trivial (Below.refl _ _) (Nat.le_refl _) (by simp) ?_; (case hd => rfl); (case hg => rfl); (case hr => first | (go_simp; done) | (go_simp; rfl)); (case hp => exact (Reps.one (show Kd.M (Kd.int .i64) _ _ _ a0_1 [.int .i64 a0_1] from rfl) (Reps.none _ _))); intro v144 w78 ho79 hb hg_ hnew_; clear hg_ hnew_; (first | rw [← Ny143.out] at ho79 | (simp only [Int.reduceToNat] at ho79; rw [← Ny143.out] at ho79)); have n0_ := Aside0.mk (Kd.R_below (kr_ HO142) hb); have n1_ := Aside0.mk (Kd.R_lower ho79 (below_size (bl1_ HB GE138))); have n2_ := Aside0.mk (blk_below (g := gb138) (bk_ BK138) hb); have n3_ := Aside0.mk (below_step (bl1_ HB GE138) hb); clear HO142; clear BK138; clear HB; have HO142 := n0_; have HO145 := n1_; have BK138 := n2_; have HB := n3_; clear n0_ n1_ n2_ n3_; clear hb ho79; obtain ⟨Ao80, co80, eo80⟩ := Kd.R_slice HO142.out; subst eo80; obtain ⟨Ao81, co81, eo81⟩ := Kd.R_slice HO145.out; subst eo81) | ((with_reducible refine gate_callee (f := 53) rfl ?_); refine goesL_ (some 18) rfl rfl Try.func53 (by kernel_rfl) rfl #[.slice Ao80 y140.length co80, .slice Ao81 y143.length co81] rfl ar_ ?_; (with_reducible refine (pdu_lay.calls _ _ y140 _ _ y143 t146 _ ?side1 ?side2 ?side3 ?side4 A4.out).mono ?_); (case side1 => exact sc_ (Kd.R_reads' HO142.out).2.2); (case side2 => exact (Kd.R_reads' HO142.out).2.1); (case side3 => exact sc_ (Kd.R_reads' HO145.out).2.2); (case side4 => exact (Kd.R_reads' HO145.out).2.1); rintro e w82 ⟨v147, rfl, ho0, hb⟩; refine ⟨_, rfl, ?_⟩; have n0_ := Aside0.mk (Kd.R_elder' (kr_ HO142) (Kd.R_base ho0) hb); have n1_ := Aside0.mk (Kd.R_below (kr_ HO145) hb); have n2_ := Aside0.mk (Kd.R_lower (Kd.R_new' ho0 (Kd.R_lt (kr_ HO142))) (below_size (bl1_ HB GE138))); have n3_ := Aside0.mk (blk_below (g := gb138) (bk_ BK138) hb); have n4_ := Aside0.mk (below_step (bl1_ HB GE138) hb); clear HO142; clear HO145; clear BK138; clear HB; have HO142 := n0_; have HO145 := n1_; have HO148 := n2_; have BK138 := n3_; have HB := n4_; clear n0_ n1_ n2_ n3_ n4_; (try clear hb); (try clear hb2); (try clear hk); (try clear hi); (try clear ho0); refine cz7_ BK138.out ?_; intro hcz83_0 hcz83_1 hcz83_2 hcz83_3 hcz83_4 hcz83_5 hcz83_6 hfz83_0 hfz83_1 hfz83_2 hfz83_3 hfz83_4 hfz83_5 hfz83_6))
      have n0_ := Aside0.mk (Kd.R_drew HO142.out)
      have n1_ := Aside0.mk (Kd.R_drew HO145.out)
      have n2_ := Aside0.mk (Kd.R_drew HO148.out)
      have n3_ := Aside0.mk (blk_drew BK138.out)
      have n4_ := Aside0.mk (below_drew1 HB.out)
      clear HO142
      clear HO145
      clear HO148
      clear BK138
      clear HB
      have HO142 := n0_
      have HO145 := n1_
      have HO148 := n2_
      have BK138 := n3_
      have HB := n4_
      clear n0_ n1_ n2_ n3_ n4_
      refine start_ (n := 10) (S := fun w' => w'.cell? ⟨gb138, 0, none⟩ = some (.int .i64 a0_0) ∧ w'.cell? ⟨gb138, 1, none⟩ = some (.int .i64 a0_1) ∧ w'.cell? ⟨gb138, 2, none⟩ = some (.int .i64 a0_2) ∧ w'.cell? ⟨gb138, 3, none⟩ = some (.slice A0_3 l0_3.length c0_3) ∧ w'.cell? ⟨gb138, 4, none⟩ = some (.int .i64 a0_4) ∧ w'.cell? ⟨gb138, 5, none⟩ = some (.int .i64 a0_5) ∧ w'.cell? ⟨gb138, 6, none⟩ = some (.int .i64 a0_6)) (ds := []) #[false, false, false, false, false, false, false, false, false, false] (by kernel_rfl) rfl rfl ⟨(blk_cell BK138.out 0).trans rfl, (blk_cell BK138.out 1).trans rfl, (blk_cell BK138.out 2).trans rfl, (blk_cell BK138.out 3).trans rfl, (blk_cell BK138.out 4).trans rfl, (blk_cell BK138.out 5).trans rfl, (blk_cell BK138.out 6).trans rfl⟩ (fun hHeld => ?_); refine with_tabW pdu_Bytes.tab14 pdu_Bytes.bits14 (fun HT_ HW_ => ?_)
      generalize w82.drew = w84 at HO142 HO145 HO148 BK138 HB hHeld ⊢
      refine pure_ (i := 0) (N := some 56) (v := ?_) (a' := ?_) #[true, false, false, false, false, false, false, false, false, false] rfl rfl (any_of HT_.out (by kernel_rfl)) (fun _ _ _ h => h) (Or.inl ⟨by rfl, ?_⟩) ?_ ?_
      rotate_left
      ·intro w'
       go_simp
       with_reducible rfl
      rotate_left
      ·simp only [Act.put, List.setIfInBounds_toArray, List.set_cons_zero, List.set_cons_succ, i64_w, i32_w]
       rfl
      refine pure_ (i := 1) (N := some 57) (v := ?_) (a' := ?_) #[true, true, false, false, false, false, false, false, false, false] rfl rfl (any_of HT_.out (by kernel_rfl)) (fun _ _ _ h => h) (Or.inl ⟨by rfl, ?_⟩) ?_ ?_
      rotate_left
      ·intro w'
       go_simp
       with_reducible rfl
      rotate_left
      ·simp only [Act.put, List.setIfInBounds_toArray, List.set_cons_zero, List.set_cons_succ, i64_w, i32_w]
       rfl
      refine pure_ (i := 5) (N := some 61) (v := ?_) (a' := ?_) #[true, true, false, false, false, true, false, false, false, false] rfl rfl (any_of HT_.out (by kernel_rfl)) (fun _ _ _ h => h) (Or.inl ⟨by rfl, ?_⟩) ?_ ?_
      rotate_left
      ·intro w'
       go_simp
       with_reducible rfl
      rotate_left
      ·simp only [Act.put, List.setIfInBounds_toArray, List.set_cons_zero, List.set_cons_succ, i64_w, i32_w]
       rfl
      refine take_ (i := 2) (N := some 58) (v := ?_) (a' := ?_) #[true, true, true, false, false, true, false, false, false, false] rfl rfl (take_ofW HT_.out HW_.out (by kernel_rfl)) (fun _ _ _ h => h) (Or.inl ⟨by rfl, ?_⟩) hHeld ?_ ?_
      rotate_left
      ·rintro w' ⟨s0, s1, s2, s3, s4, s5, s6⟩
       go_simp
       with_reducible rfl
      rotate_left
      ·simp only [Act.put, List.setIfInBounds_toArray, List.set_cons_zero, List.set_cons_succ, i64_w, i32_w]
       rfl
      refine take_ (i := 6) (N := some 62) (v := ?_) (a' := ?_) #[true, true, true, false, false, true, true, false, false, false] rfl rfl (take_ofW HT_.out HW_.out (by kernel_rfl)) (fun _ _ _ h => h) (Or.inl ⟨by rfl, ?_⟩) hHeld ?_ ?_
      rotate_left
      ·rintro w' ⟨s0, s1, s2, s3, s4, s5, s6⟩
       go_simp
       with_reducible rfl
      rotate_left
      ·simp only [Act.put, List.setIfInBounds_toArray, List.set_cons_zero, List.set_cons_succ, i64_w, i32_w]
       rfl
      refine one_ (i := 3) (N := some 59) #[true, true, true, true, false, true, true, false, false, false] rfl rfl (one_of HT_.out (by kernel_rfl)) (by decide) (fun K hK => ?_)
      refine Kd.R_lit_step (Kd.int .i64) _ 3 ?hg (N := 59) ?hd (xs := ([a0_2] : List Int)) (inner := [.int .i64 a0_2]) (ok := fun _ => True) (okp := fun _ => True) ?hr ?hp (fun _ hk => hk) trivial (Below.refl _ _) (Nat.le_refl _) (by simp) ?_; (case hd => rfl); (case hg => rfl); (case hr => first | (go_simp; done) | (go_simp; rfl)); (case hp => exact (Reps.one (show Kd.M (Kd.int .i64) _ _ _ a0_2 [.int .i64 a0_2] from rfl) (Reps.none _ _)))
      intro v170 w85 ho86 hb hg_ hnew_
      clear hg_ hnew_
      (first | rw [← Ny169.out] at ho86 | (simp only [Int.reduceToNat] at ho86; rw [← Ny169.out] at ho86))
      have n0_ := Aside0.mk (Kd.R_below (kr_ HO142) hb)
      have n1_ := Aside0.mk (Kd.R_elder' (kr_ HO145) (Kd.R_base ho86) hb)
      have n2_ := Aside0.mk (Kd.R_below (kr_ HO148) hb)
      have n3_ := Aside0.mk (Kd.R_lower (Kd.R_new' ho86 (Kd.R_lt (kr_ HO145))) (below_size (bl1_ HB GE138)))
      have n4_ := Aside0.mk (blk_below (g := gb138) (bk_ BK138) hb)
      have n5_ := Aside0.mk (below_step (bl1_ HB GE138) hb)
      clear HO142
      clear HO145
      clear HO148
      clear BK138
      clear HB
      have HO142 := n0_
      have HO145 := n1_
      have HO148 := n2_
      have HO171 := n3_
      have BK138 := n4_
      have HB := n5_
      clear n0_ n1_ n2_ n3_ n4_ n5_
      clear hb ho86
      obtain ⟨Ao87, co87, eo87⟩ := Kd.R_slice HO148.out
      (first | subst eo87 | (injection eo87 with f1_ f2_ f3_; have f4_ := f1_.symm; have f5_ := f3_.symm; clear f1_ f2_ f3_; subst f4_; subst f5_))
      obtain ⟨Ao88, co88, eo88⟩ := Kd.R_slice HO171.out
      (first | subst eo88 | (injection eo88 with f1_ f2_ f3_; have f4_ := f1_.symm; have f5_ := f3_.symm; clear f1_ f2_ f3_; subst f4_; subst f5_))
      refine hK.out _ _ ⟨(blk_cell BK138.out 0).trans rfl, (blk_cell BK138.out 1).trans rfl, (blk_cell BK138.out 2).trans rfl, (blk_cell BK138.out 3).trans rfl, (blk_cell BK138.out 4).trans rfl, (blk_cell BK138.out 5).trans rfl, (blk_cell BK138.out 6).trans rfl⟩ (fun hHeld => ?_)
      clear hK K
      refine norm_ (a' := ?_) ?_ ?_
      rotate_left
      ·show Act.put _ (some 59) _ = _
       simp only [Act.put, List.setIfInBounds_toArray, List.set_cons_zero, List.set_cons_succ, i64_w, i32_w]
       rfl
      refine one_ (i := 4) (N := some 60) #[true, true, true, true, true, true, true, false, false, false] rfl rfl (one_of HT_.out (by kernel_rfl)) (by decide) (fun K hK => ?_)
      refine goes_ Try.func53 (by kernel_rfl) rfl #[.slice Ao87 t146.length co87, .slice Ao88 y169.length co88] (by rfl) rfl rfl ar_ ?_
      with_reducible refine (pdu_lay.calls _ _ t146 _ _ y169 t172 _ ?side1 ?side2 ?side3 ?side4 A68.out).mono ?_
      (case side1 => exact sc_ (Kd.R_reads' HO148.out).2.2)
      (case side2 => exact (Kd.R_reads' HO148.out).2.1)
      (case side3 => exact sc_ (Kd.R_reads' HO171.out).2.2)
      (case side4 => exact (Kd.R_reads' HO171.out).2.1)
      rintro e w89 ⟨v173, rfl, ho0, hb⟩
      refine ⟨_, rfl, ?_⟩
      have n0_ := Aside0.mk (Kd.R_elder' (kr_ HO142) (Kd.R_base ho0) hb)
      have n1_ := Aside0.mk (Kd.R_below (kr_ HO145) hb)
      have n2_ := Aside0.mk (Kd.R_elder' (kr_ HO148) (Kd.R_base ho0) hb)
      have n3_ := Aside0.mk (Kd.R_below (kr_ HO171) hb)
      have n4_ := Aside0.mk (Kd.R_lower (Kd.R_new' (Kd.R_new' ho0 (Kd.R_lt (kr_ HO142))) (Kd.R_lt (kr_ HO148))) (below_size (bl1_ HB GE138)))
      have n5_ := Aside0.mk (blk_below (g := gb138) (bk_ BK138) hb)
      have n6_ := Aside0.mk (below_step (bl1_ HB GE138) hb)
      clear HO142
      clear HO145
      clear HO148
      clear HO171
      clear BK138
      clear HB
      have HO142 := n0_
      have HO145 := n1_
      have HO148 := n2_
      have HO171 := n3_
      have HO174 := n4_
      have BK138 := n5_
      have HB := n6_
      clear n0_ n1_ n2_ n3_ n4_ n5_ n6_
      (try clear hb)
      (try clear hb2)
      (try clear hk)
      (try clear hi)
      (try clear ho0)
      refine hK.out _ _ ⟨(blk_cell BK138.out 0).trans rfl, (blk_cell BK138.out 1).trans rfl, (blk_cell BK138.out 2).trans rfl, (blk_cell BK138.out 3).trans rfl, (blk_cell BK138.out 4).trans rfl, (blk_cell BK138.out 5).trans rfl, (blk_cell BK138.out 6).trans rfl⟩ (fun hHeld => ?_)
      clear hK K
      refine norm_ (a' := ?_) ?_ ?_
      rotate_left
      ·show Act.put _ (some 60) _ = _
       simp only [Act.put, List.setIfInBounds_toArray, List.set_cons_zero, List.set_cons_succ, i64_w, i32_w]
       rfl
      refine one_ (i := 7) (N := some 63) #[true, true, true, true, true, true, true, true, false, false] rfl rfl (one_of HT_.out (by kernel_rfl)) (by decide) (fun K hK => ?_)
      refine goes_ Try.func55 (by kernel_rfl) rfl #[.slice A0_3 l0_3.length c0_3] (by rfl) rfl rfl ar_ ?_
      with_reducible refine (pdu_packed.calls k _ _ l0_3 t175 _ ?side1 ?side2 A69.out).mono ?_
      (case side1 => exact sc_ (Kd.C_below HR0_3.out HB.out))
      (case side2 => exact HC0_3.out)
      rintro e w90 ⟨v176, rfl, ho0, hb⟩
      refine ⟨_, rfl, ?_⟩
      have n0_ := Aside0.mk (Kd.R_elder' (kr_ HO142) (Kd.R_base ho0) hb)
      have n1_ := Aside0.mk (Kd.R_below (kr_ HO145) hb)
      have n2_ := Aside0.mk (Kd.R_elder' (kr_ HO148) (Kd.R_base ho0) hb)
      have n3_ := Aside0.mk (Kd.R_below (kr_ HO171) hb)
      have n4_ := Aside0.mk (Kd.R_elder' (kr_ HO174) (Kd.R_base ho0) hb)
      have n5_ := Aside0.mk (Kd.R_lower (Kd.R_new' (Kd.R_new' (Kd.R_new' ho0 (Kd.R_lt (kr_ HO142))) (Kd.R_lt (kr_ HO148))) (Kd.R_lt (kr_ HO174))) (below_size (bl1_ HB GE138)))
      have n6_ := Aside0.mk (blk_below (g := gb138) (bk_ BK138) hb)
      have n7_ := Aside0.mk (below_step (bl1_ HB GE138) hb)
      clear HO142
      clear HO145
      clear HO148
      clear HO171
      clear HO174
      clear BK138
      clear HB
      have HO142 := n0_
      have HO145 := n1_
      have HO148 := n2_
      have HO171 := n3_
      have HO174 := n4_
      have HO177 := n5_
      have BK138 := n6_
      have HB := n7_
      clear n0_ n1_ n2_ n3_ n4_ n5_ n6_ n7_
      (try clear hb)
      (try clear hb2)
      (try clear hk)
      (try clear hi)
      (try clear ho0)
      obtain ⟨Ao91, co91, eo91⟩ := Kd.R_slice HO174.out
      (first | subst eo91 | (injection eo91 with f1_ f2_ f3_; have f4_ := f1_.symm; have f5_ := f3_.symm; clear f1_ f2_ f3_; subst f4_; subst f5_))
      obtain ⟨Ao92, co92, eo92⟩ := Kd.R_slice HO177.out
      (first | subst eo92 | (injection eo92 with f1_ f2_ f3_; have f4_ := f1_.symm; have f5_ := f3_.symm; clear f1_ f2_ f3_; subst f4_; subst f5_))
      refine hK.out _ _ ⟨(blk_cell BK138.out 0).trans rfl, (blk_cell BK138.out 1).trans rfl, (blk_cell BK138.out 2).trans rfl, (blk_cell BK138.out 3).trans rfl, (blk_cell BK138.out 4).trans rfl, (blk_cell BK138.out 5).trans rfl, (blk_cell BK138.out 6).trans rfl⟩ (fun hHeld => ?_)
      clear hK K
      refine norm_ (a' := ?_) ?_ ?_
      rotate_left
      ·show Act.put _ (some 63) _ = _
       simp only [Act.put, List.setIfInBounds_toArray, List.set_cons_zero, List.set_cons_succ, i64_w, i32_w]
       rfl
      refine one_ (i := 8) (N := some 64) #[true, true, true, true, true, true, true, true, true, false] rfl rfl (one_of HT_.out (by kernel_rfl)) (by decide) (fun K hK => ?_)
      refine goes_ Try.func54 (by kernel_rfl) rfl #[.slice Ao91 t172.length co91, .slice Ao92 t175.length co92] (by rfl) rfl rfl ar_ ?_
      with_reducible refine (pdu_counted.calls (fun k_ => some k_ = (.slice Ao91 t172.length co91 : Value).ownBlock) (.slice Ao91 t172.length co91) t172 _ _ t175 t178 w _ ?side1 ?side2 ?side3 ?side4 A70.out).mono ?_
      (case side1 => repeat (first | (with_reducible first | exact HB.out | apply below_alloc | apply pw_below_drewN | apply below_drew1 | refine below_set ?_ GE138.out) | exact HB.out))
      (case side2 => exact Kd.R_tight rfl HO174.out)
      (case side3 => exact Kd.C_kept_own (HO177.out) (fun k_ hk_ hs_ => (hk_.2) hs_))
      (case side4 => exact (Kd.R_reads' HO177.out).2.1)
      rintro e w93 ⟨v179, rfl, ho0, hb, hkp⟩
      refine ⟨_, rfl, ?_⟩
      have n0_ := Aside0.mk (blk_kept (bk_ BK138) hkp (fun hs_ => (fun e_ => (Kd.R_ne HO174.out BK138.out (by decide)) e_) hs_))
      have n1_ := Aside0.mk (Kd.R_mono (ok' := fun k_ => some k_ ≠ (.slice Ao87 t146.length co87 : Value).ownBlock ∧ some k_ ≠ (.slice Ao92 t175.length co92 : Value).ownBlock ∧ some k_ ≠ (v179 : Value).ownBlock) (Kd.R_keptB (HO142.out) hkp (fun k_ hk_ hs_ => (hk_.1.2) hs_)) (fun k_ hk_ => ⟨hk_.1.1.1.2, hk_.1.2, fun e_ => Or.elim (ho0.1 k_ e_.symm) (fun hs_ => hk_.2.1 hs_) (fun hn_ => Nat.not_le.2 hk_.2.2 hn_)⟩))
      have n2_ := Aside0.mk (Kd.R_mono (ok' := fun k_ => some k_ ≠ (.slice Ao88 y169.length co88 : Value).ownBlock) (Kd.R_keptB ((Kd.R_apart' HO145.out (Kd.R_typed HO174.out) (by decide))) hkp (fun k_ hk_ hs_ => (hk_.2) hs_)) (fun k_ hk_ => hk_.1.1.2))
      have n3_ := Aside0.mk (Kd.R_mono (ok' := fun k_ => some k_ ≠ (.slice Ao80 y140.length co80 : Value).ownBlock ∧ some k_ ≠ (.slice Ao92 t175.length co92 : Value).ownBlock ∧ some k_ ≠ (v179 : Value).ownBlock) (Kd.R_keptB (HO148.out) hkp (fun k_ hk_ hs_ => (hk_.1.2) hs_)) (fun k_ hk_ => ⟨hk_.1.1.1.2, hk_.1.2, fun e_ => Or.elim (ho0.1 k_ e_.symm) (fun hs_ => hk_.2.1 hs_) (fun hn_ => Nat.not_le.2 hk_.2.2 hn_)⟩))
      have n4_ := Aside0.mk (Kd.R_mono (ok' := fun k_ => some k_ ≠ (.slice Ao81 y143.length co81 : Value).ownBlock) (Kd.R_keptB ((Kd.R_apart' HO171.out (Kd.R_typed HO174.out) (by decide))) hkp (fun k_ hk_ hs_ => (hk_.2) hs_)) (fun k_ hk_ => hk_.1.1.2))
      have n5_ := Aside0.mk (Kd.R_mono (ok' := fun k_ => some k_ ≠ (.slice Ao80 y140.length co80 : Value).ownBlock ∧ some k_ ≠ (.slice Ao87 t146.length co87 : Value).ownBlock ∧ some k_ ≠ (v179 : Value).ownBlock) (Kd.R_keptB (HO177.out) hkp (fun k_ hk_ hs_ => (hk_.2) hs_)) (fun k_ hk_ => ⟨hk_.1.1.1.2, hk_.1.1.2, fun e_ => Or.elim (ho0.1 k_ e_.symm) (fun hs_ => hk_.2.1 hs_) (fun hn_ => Nat.not_le.2 hk_.2.2 hn_)⟩))
      have n6_ := Aside0.mk (Kd.R_mono (ok' := fun k_ => some k_ ≠ (.slice Ao80 y140.length co80 : Value).ownBlock ∧ some k_ ≠ (.slice Ao87 t146.length co87 : Value).ownBlock ∧ some k_ ≠ (.slice Ao92 t175.length co92 : Value).ownBlock) ho0 (fun k_ hk_ => ⟨Or.elim hk_ (fun hs_ => fun e_ => (((HO142.out).1 k_ e_.symm).1.2) hs_) (fun hn_ => (Kd.fresh' (Kd.R_lt (kr_ HO142)) k_ hn_)), Or.elim hk_ (fun hs_ => fun e_ => (((HO148.out).1 k_ e_.symm).1.2) hs_) (fun hn_ => (Kd.fresh' (Kd.R_lt (kr_ HO148)) k_ hn_)), Or.elim hk_ (fun hs_ => fun e_ => (((HO177.out).1 k_ e_.symm).2) hs_) (fun hn_ => (Kd.fresh' (Kd.R_lt (kr_ HO177)) k_ hn_))⟩))
      have n7_ := Aside0.mk (hb)
      clear BK138
      clear HO142
      clear HO145
      clear HO148
      clear HO171
      clear HO177
      clear HB
      clear HO174
      have BK138 := n0_
      have HO142 := n1_
      have HO145 := n2_
      have HO148 := n3_
      have HO171 := n4_
      have HO177 := n5_
      have HO180 := n6_
      have HB := n7_
      clear n0_ n1_ n2_ n3_ n4_ n5_ n6_ n7_
      (try clear hb)
      (try clear hkp)
      (try clear ho0)
      refine hK.out _ _ ⟨(blk_cell BK138.out 0).trans rfl, (blk_cell BK138.out 1).trans rfl, (blk_cell BK138.out 2).trans rfl, (blk_cell BK138.out 3).trans rfl, (blk_cell BK138.out 4).trans rfl, (blk_cell BK138.out 5).trans rfl, (blk_cell BK138.out 6).trans rfl⟩ (fun hHeld => ?_)
      clear hK K
      refine norm_ (a' := ?_) ?_ ?_
      rotate_left
      ·show Act.put _ (some 64) _ = _
       simp only [Act.put, List.setIfInBounds_toArray, List.set_cons_zero, List.set_cons_succ, i64_w, i32_w]
       rfl
      refine pure_ (i := 9) (N := some 5) (v := ?_) (a' := ?_) #[true, true, true, true, true, true, true, true, true, true] rfl rfl (any_of HT_.out (by kernel_rfl)) (fun _ _ _ h => h) (Or.inl ⟨by rfl, ?_⟩) ?_ ?_
      rotate_left
      ·intro w'
       go_simp
       with_reducible rfl
      rotate_left
      ·simp only [Act.put, List.setIfInBounds_toArray, List.set_cons_zero, List.set_cons_succ, i64_w, i32_w]
       rfl
      refine done_ (done_of HT_.out (by kernel_rfl)) ?_
      try go_wp2
      go_ret2
      exact ⟨_, er_, by (with_reducible repeat (first | apply Kd.R_alloc | apply Kd.R_drewN | apply Kd.R_drew)); exact Kd.R_mono HO180.out (fun _ hk => trivial), bl1_ HB GE138⟩
     ·rw [if_neg c67] at H
      have c67b0 : (a0_0 == 15) = false := beq_eq_false_iff_ne.mpr c67
      have c67b1 : (a0_0 != 15) = true := bne_iff_ne.mpr c67
      by_cases c94 : a0_0 = 23
      ·rw [if_pos c94] at H
       have c94b0 : (a0_0 == 23) = true := beq_iff_eq.mpr c94
       have c94b1 : (a0_0 != 23) = false := bne_eq_false_iff_eq.mpr c94
       clear c94
       obtain ⟨y181, hy181⟩ : ∃ y_ : List Int, y_ = (([a0_2, a0_4, (l0_3.length : Int)] : List Int)) := ⟨_, rfl⟩
       replace H : ((pdu_lay.f t146 y181).bind fun t184 => ((pdu_lay.f ([] : List Int) l0_3).bind fun t187 => ((pdu_counted.f t184 t187).bind fun t190 => (some (t190, 0))))) = some (r1, r2) := by first | (rw [hy181]; with_reducible exact H) | (have H2_ := (Option.bind_some _ _).symm.trans H; rw [hy181]; with_reducible exact H2_) | (have H2_ := (Option.bind_some _ _).symm.trans H; with_reducible exact H2_) | with_reducible exact H | (rw [hy181]; exact H) | exact H
       have Ny181 := Aside0.mk hy181
       clear hy181
       replace H := Option.bind_eq_some_iff.mp H
       obtain ⟨t184, A950, H⟩ := H
       replace H : ((pdu_lay.f ([] : List Int) l0_3).bind fun t187 => ((pdu_counted.f t184 t187).bind fun t190 => (some (t190, 0)))) = some (r1, r2) := H
       have A95 := Aside0.mk A950
       clear A950
       replace H := Option.bind_eq_some_iff.mp H
       obtain ⟨t187, A960, H⟩ := H
       replace H : ((pdu_counted.f t184 t187).bind fun t190 => (some (t190, 0))) = some (r1, r2) := H
       have A96 := Aside0.mk A960
       clear A960
       replace H := Option.bind_eq_some_iff.mp H
       obtain ⟨t190, A970, H⟩ := H
       replace H : (some (t190, 0)) = some (r1, r2) := H
       have A97 := Aside0.mk A970
       clear A970
       simp only [Option.some.injEq, Prod.mk.injEq] at H
       obtain ⟨rfl, rfl⟩ := H
       go_enter Try.func30, Try.ntmps30
       go_wp2_with (first | ((with_reducible refine gate_dst (N := 1) rfl ?_); refine bx_ (N := 1) (cs := #[.int .i64 a0_0, .int .i64 a0_1, .int .i64 a0_2, .slice A0_3 l0_3.length c0_3, .int .i64 a0_4, .int .i64 a0_5, .int .i64 a0_6]) (t := 24) ?_; intro gb138 hg w98 hbox hb; have n0_ := Aside0.mk (below_step (bl0_ HB) hb); have n1_ := Aside0.mk (hbox); have n2_ := Aside0.mk ((by rw [hg]; exact (below_size (bl0_ HB)) : w.heap.size ≤ gb138)); have n3_ := Aside0.mk ((by rw [hg]; exact (below_size (bl0_ HB)) : w.heap.size ≤ gb138)); clear HB; have HB := n0_; have BK138 := n1_; have GW138 := n2_; have GE138 := n3_; clear n0_ n1_ n2_ n3_; clear hb hbox hg; refine cz7_ BK138.out ?_; intro hcz99_0 hcz99_1 hcz99_2 hcz99_3 hcz99_4 hcz99_5 hcz99_6 hfz99_0 hfz99_1 hfz99_2 hfz99_3 hfz99_4 hfz99_5 hfz99_6) | ((with_reducible refine gate_callee (f := 29) rfl ?_); refine goesL_ (some 7) rfl rfl Try.func29 (by kernel_rfl) rfl #[.agg #[.int .i64 a0_0, .int .i64 a0_1, .int .i64 a0_2, .slice A0_3 l0_3.length c0_3, .int .i64 a0_4, .int .i64 a0_5, .int .i64 a0_6]] rfl ar_ ?_; (with_reducible refine (pdu_Check.calls k a0_0 a0_1 a0_2 _ _ l0_3 a0_4 a0_5 a0_6 t139 _ ?side1 ?side2 A2.out).mono ?_); (case side1 => exact sc_ (Kd.C_below HR0_3.out HB.out)); (case side2 => exact HC0_3.out); rintro e w100 ⟨rfl, hb⟩; refine ⟨_, rfl, ?_⟩; have n0_ := Aside0.mk (blk_below (g := gb138) (bk_ BK138) hb); have n1_ := Aside0.mk (below_step (bl1_ HB GE138) hb); clear BK138; clear HB; have BK138 := n0_; have HB := n1_; clear n0_ n1_; (try clear hb); (try clear hb2); (try clear hk); (try clear hi); refine cz7_ BK138.out ?_; intro hcz101_0 hcz101_1 hcz101_2 hcz101_3 hcz101_4 hcz101_5 hcz101_6 hfz101_0 hfz101_1 hfz101_2 hfz101_3 hfz101_4 hfz101_5 hfz101_6) | ((with_reducible refine gate_dst (N := 14) rfl ?_); refine Kd.R_lit (Kd.int .u8) _ 5 ?hg (N := 14) ?hd (xs := ([(a0_0) % 256] : List Int)) (inner := [.int .u8 ((a0_0) % 256)]) (ok := fun _ => True) (okp := fun _ => True) ?hr ?hp (fun _ hk => hk) trivial (Below.refl _ _) (Nat.le_refl _) (by simp) ?_; (case hd => rfl); (case hg => rfl); (case hr => first | (go_simp; done) | (go_simp; rfl)); (case hp => exact (Reps.one (show Kd.M (Kd.int .u8) _ _ _ ((a0_0) % 256) [.int .u8 ((a0_0) % 256)] from rfl) (Reps.none _ _))); intro v141 w102 ho103 hb hg_ hnew_; clear hg_ hnew_; (first | rw [← Ny140.out] at ho103 | (simp only [Int.reduceToNat] at ho103; rw [← Ny140.out] at ho103)); have n0_ := Aside0.mk (Kd.R_lower ho103 (below_size (bl1_ HB GE138))); have n1_ := Aside0.mk (blk_below (g := gb138) (bk_ BK138) hb); have n2_ := Aside0.mk (below_step (bl1_ HB GE138) hb); clear BK138; clear HB; have HO142 := n0_; have BK138 := n1_; have HB := n2_; clear n0_ n1_ n2_; clear hb ho103; refine cz7_ BK138.out ?_; intro hcz104_0 hcz104_1 hcz104_2 hcz104_3 hcz104_4 hcz104_5 hcz104_6 hfz104_0 hfz104_1 hfz104_2 hfz104_3 hfz104_4 hfz104_5 hfz104_6) | ((with_reducible refine gate_dst (N := 17) rfl ?_); refine Kd.R_lit (Kd.int .i64) _ 3 ?hg (N := 17) ?hd (xs := ([a0_1] : List Int)) (inner := [.int .i64 a0_1]) (ok := fun _ => True) (okp := fun _ => True) ?hr ?hp (fun _ hk => hk) trivial (Below.refl _ _) (Nat.le_refl _) (by simp) ?_; (case hd => rfl); (case hg => rfl); (case hr => first | (go_simp; done) | (go_simp; rfl)); (case hp => exact (Reps.one (show Kd.M (Kd.int .i64) _ _ _ a0_1 [.int .i64 a0_1] from rfl) (Reps.none _ _))); intro v144 w105 ho106 hb hg_ hnew_; clear hg_ hnew_; (first | rw [← Ny143.out] at ho106 | (simp only [Int.reduceToNat] at ho106; rw [← Ny143.out] at ho106)); have n0_ := Aside0.mk (Kd.R_below (kr_ HO142) hb); have n1_ := Aside0.mk (Kd.R_lower ho106 (below_size (bl1_ HB GE138))); have n2_ := Aside0.mk (blk_below (g := gb138) (bk_ BK138) hb); have n3_ := Aside0.mk (below_step (bl1_ HB GE138) hb); clear HO142; clear BK138; clear HB; have HO142 := n0_; have HO145 := n1_; have BK138 := n2_; have HB := n3_; clear n0_ n1_ n2_ n3_; clear hb ho106; obtain ⟨Ao107, co107, eo107⟩ := Kd.R_slice HO142.out; subst eo107; obtain ⟨Ao108, co108, eo108⟩ := Kd.R_slice HO145.out; subst eo108) | ((with_reducible refine gate_callee (f := 53) rfl ?_); refine goesL_ (some 18) rfl rfl Try.func53 (by kernel_rfl) rfl #[.slice Ao107 y140.length co107, .slice Ao108 y143.length co108] rfl ar_ ?_; (with_reducible refine (pdu_lay.calls _ _ y140 _ _ y143 t146 _ ?side1 ?side2 ?side3 ?side4 A4.out).mono ?_); (case side1 => exact sc_ (Kd.R_reads' HO142.out).2.2); (case side2 => exact (Kd.R_reads' HO142.out).2.1); (case side3 => exact sc_ (Kd.R_reads' HO145.out).2.2); (case side4 => exact (Kd.R_reads' HO145.out).2.1); rintro e w109 ⟨v147, rfl, ho0, hb⟩; refine ⟨_, rfl, ?_⟩; have n0_ := Aside0.mk (Kd.R_elder' (kr_ HO142) (Kd.R_base ho0) hb); have n1_ := Aside0.mk (Kd.R_below (kr_ HO145) hb); have n2_ := Aside0.mk (Kd.R_lower (Kd.R_new' ho0 (Kd.R_lt (kr_ HO142))) (below_size (bl1_ HB GE138))); have n3_ := Aside0.mk (blk_below (g := gb138) (bk_ BK138) hb); have n4_ := Aside0.mk (below_step (bl1_ HB GE138) hb); clear HO142; clear HO145; clear BK138; clear HB; have HO142 := n0_; have HO145 := n1_; have HO148 := n2_; have BK138 := n3_; have HB := n4_; clear n0_ n1_ n2_ n3_ n4_; (try clear hb); (try clear hb2); (try clear hk); (try clear hi); (try clear ho0); refine cz7_ BK138.out ?_; intro hcz110_0 hcz110_1 hcz110_2 hcz110_3 hcz110_4 hcz110_5 hcz110_6 hfz110_0 hfz110_1 hfz110_2 hfz110_3 hfz110_4 hfz110_5 hfz110_6) | ((with_reducible refine gate_dst (N := 75) rfl ?_); refine Kd.R_lit (Kd.int .i64) _ 3 ?hg (N := 75) ?hd (xs := ([a0_2, a0_4, (l0_3.length : Int)] : List Int)) (inner := [.int .i64 a0_2, .int .i64 a0_4, .int .i64 (l0_3.length : Int)]) (ok := fun _ => True) (okp := fun _ => True) ?hr ?hp (fun _ hk => hk) trivial (Below.refl _ _) (Nat.le_refl _) (by simp) ?_; (case hd => rfl); (case hg => rfl); (case hr => first | (go_simp; done) | (go_simp; rfl)); (case hp => exact (Reps.one (show Kd.M (Kd.int .i64) _ _ _ a0_2 [.int .i64 a0_2] from rfl) (Reps.one (show Kd.M (Kd.int .i64) _ _ _ a0_4 [.int .i64 a0_4] from rfl) (Reps.one (show Kd.M (Kd.int .i64) _ _ _ (l0_3.length : Int) [.int .i64 (l0_3.length : Int)] from rfl) (Reps.none _ _))))); intro v182 w111 ho112 hb hg_ hnew_; clear hg_ hnew_; (first | rw [← Ny181.out] at ho112 | (simp only [Int.reduceToNat] at ho112; rw [← Ny181.out] at ho112)); have n0_ := Aside0.mk (Kd.R_below (kr_ HO142) hb); have n1_ := Aside0.mk (Kd.R_elder' (kr_ HO145) (Kd.R_base ho112) hb); have n2_ := Aside0.mk (Kd.R_below (kr_ HO148) hb); have n3_ := Aside0.mk (Kd.R_lower (Kd.R_new' ho112 (Kd.R_lt (kr_ HO145))) (below_size (bl1_ HB GE138))); have n4_ := Aside0.mk (blk_below (g := gb138) (bk_ BK138) hb); have n5_ := Aside0.mk (below_step (bl1_ HB GE138) hb); clear HO142; clear HO145; clear HO148; clear BK138; clear HB; have HO142 := n0_; have HO145 := n1_; have HO148 := n2_; have HO183 := n3_; have BK138 := n4_; have HB := n5_; clear n0_ n1_ n2_ n3_ n4_ n5_; clear hb ho112; obtain ⟨Ao113, co113, eo113⟩ := Kd.R_slice HO148.out; subst eo113; obtain ⟨Ao114, co114, eo114⟩ := Kd.R_slice HO183.out; subst eo114) | ((with_reducible refine gate_callee (f := 53) rfl ?_); refine goesL_ (some 76) rfl rfl Try.func53 (by kernel_rfl) rfl #[.slice Ao113 t146.length co113, .slice Ao114 y181.length co114] rfl ar_ ?_; (with_reducible refine (pdu_lay.calls _ _ t146 _ _ y181 t184 _ ?side1 ?side2 ?side3 ?side4 A95.out).mono ?_); (case side1 => exact sc_ (Kd.R_reads' HO148.out).2.2); (case side2 => exact (Kd.R_reads' HO148.out).2.1); (case side3 => exact sc_ (Kd.R_reads' HO183.out).2.2); (case side4 => exact (Kd.R_reads' HO183.out).2.1); rintro e w115 ⟨v185, rfl, ho0, hb⟩; refine ⟨_, rfl, ?_⟩; have n0_ := Aside0.mk (Kd.R_elder' (kr_ HO142) (Kd.R_base ho0) hb); have n1_ := Aside0.mk (Kd.R_below (kr_ HO145) hb); have n2_ := Aside0.mk (Kd.R_elder' (kr_ HO148) (Kd.R_base ho0) hb); have n3_ := Aside0.mk (Kd.R_below (kr_ HO183) hb); have n4_ := Aside0.mk (Kd.R_lower (Kd.R_new' (Kd.R_new' ho0 (Kd.R_lt (kr_ HO142))) (Kd.R_lt (kr_ HO148))) (below_size (bl1_ HB GE138))); have n5_ := Aside0.mk (blk_below (g := gb138) (bk_ BK138) hb); have n6_ := Aside0.mk (below_step (bl1_ HB GE138) hb); clear HO142; clear HO145; clear HO148; clear HO183; clear BK138; clear HB; have HO142 := n0_; have HO145 := n1_; have HO148 := n2_; have HO183 := n3_; have HO186 := n4_; have BK138 := n5_; have HB := n6_; clear n0_ n1_ n2_ n3_ n4_ n5_ n6_; (try clear hb); (try clear hb2); (try clear hk); (try clear hi); (try clear ho0); refine cz7_ BK138.out ?_; intro hcz116_0 hcz116_1 hcz116_2 hcz116_3 hcz116_4 hcz116_5 hcz116_6 hfz116_0 hfz116_1 hfz116_2 hfz116_3 hfz116_4 hfz116_5 hfz116_6) | ((with_reducible refine gate_callee (f := 53) rfl ?_); refine goesL_ (some 80) rfl rfl Try.func53 (by kernel_rfl) rfl #[.slice none 0 0, .slice A0_3 l0_3.length c0_3] rfl ar_ ?_; (refine (pdu_lay.calls _ _ ([] : List Int) _ _ l0_3 t187 _ ?side1 ?side2 ?side3 ?side4 A96.out).mono ?_); (case side1 => exact Kd.C_nil _ _); (case side2 => exact Nat.le_refl _); (case side3 => exact sc_ (Kd.C_below HR0_3.out HB.out)); (case side4 => exact HC0_3.out); rintro e w117 ⟨v188, rfl, ho0, hb⟩; refine ⟨_, rfl, ?_⟩; have n0_ := Aside0.mk (Kd.R_elder' (kr_ HO142) (Kd.R_base ho0) hb); have n1_ := Aside0.mk (Kd.R_below (kr_ HO145) hb); have n2_ := Aside0.mk (Kd.R_elder' (kr_ HO148) (Kd.R_base ho0) hb); have n3_ := Aside0.mk (Kd.R_below (kr_ HO183) hb); have n4_ := Aside0.mk (Kd.R_elder' (kr_ HO186) (Kd.R_base ho0) hb); have n5_ := Aside0.mk (Kd.R_lower (Kd.R_new' (Kd.R_new' (Kd.R_new' ho0 (Kd.R_lt (kr_ HO142))) (Kd.R_lt (kr_ HO148))) (Kd.R_lt (kr_ HO186))) (below_size (bl1_ HB GE138))); have n6_ := Aside0.mk (blk_below (g := gb138) (bk_ BK138) hb); have n7_ := Aside0.mk (below_step (bl1_ HB GE138) hb); clear HO142; clear HO145; clear HO148; clear HO183; clear HO186; clear BK138; clear HB; have HO142 := n0_; have HO145 := n1_; have HO148 := n2_; have HO183 := n3_; have HO186 := n4_; have HO189 := n5_; have BK138 := n6_; have HB := n7_; clear n0_ n1_ n2_ n3_ n4_ n5_ n6_ n7_; (try clear hb); (try clear hb2); (try clear hk); (try clear hi); (try clear ho0); obtain ⟨Ao118, co118, eo118⟩ := Kd.R_slice HO186.out; subst eo118; obtain ⟨Ao119, co119, eo119⟩ := Kd.R_slice HO189.out; subst eo119) | ((with_reducible refine gate_callee (f := 54) rfl ?_); refine goesL_ (some 81) rfl rfl Try.func54 (by kernel_rfl) rfl #[.slice Ao118 t184.length co118, .slice Ao119 t187.length co119] rfl ar_ ?_; (with_reducible refine (pdu_counted.calls (fun k_ => some k_ = (.slice Ao118 t184.length co118 : Value).ownBlock) (.slice Ao118 t184.length co118) t184 _ _ t187 t190 w _ ?side1 ?side2 ?side3 ?side4 A97.out).mono ?_); (case side1 => repeat (first | (with_reducible first | exact HB.out | apply below_alloc | apply pw_below_drewN | apply below_drew1 | refine below_set ?_ GE138.out) | exact HB.out)); (case side2 => exact Kd.R_tight rfl HO186.out); (case side3 => exact Kd.C_kept_own (HO189.out) (fun k_ hk_ hs_ => (hk_.2) hs_)); (case side4 => exact (Kd.R_reads' HO189.out).2.1); rintro e w120 ⟨v191, rfl, ho0, hb, hkp⟩; refine ⟨_, rfl, ?_⟩; have n0_ := Aside0.mk (blk_kept (bk_ BK138) hkp (fun hs_ => (fun e_ => (Kd.R_ne HO186.out BK138.out (by decide)) e_) hs_)); have n1_ := Aside0.mk (Kd.R_mono (ok' := fun k_ => some k_ ≠ (.slice Ao113 t146.length co113 : Value).ownBlock ∧ some k_ ≠ (.slice Ao119 t187.length co119 : Value).ownBlock ∧ some k_ ≠ (v191 : Value).ownBlock) (Kd.R_keptB (HO142.out) hkp (fun k_ hk_ hs_ => (hk_.1.2) hs_)) (fun k_ hk_ => ⟨hk_.1.1.1.2, hk_.1.2, fun e_ => Or.elim (ho0.1 k_ e_.symm) (fun hs_ => hk_.2.1 hs_) (fun hn_ => Nat.not_le.2 hk_.2.2 hn_)⟩)); have n2_ := Aside0.mk (Kd.R_mono (ok' := fun k_ => some k_ ≠ (.slice Ao114 y181.length co114 : Value).ownBlock) (Kd.R_keptB ((Kd.R_apart' HO145.out (Kd.R_typed HO186.out) (by decide))) hkp (fun k_ hk_ hs_ => (hk_.2) hs_)) (fun k_ hk_ => hk_.1.1.2)); have n3_ := Aside0.mk (Kd.R_mono (ok' := fun k_ => some k_ ≠ (.slice Ao107 y140.length co107 : Value).ownBlock ∧ some k_ ≠ (.slice Ao119 t187.length co119 : Value).ownBlock ∧ some k_ ≠ (v191 : Value).ownBlock) (Kd.R_keptB (HO148.out) hkp (fun k_ hk_ hs_ => (hk_.1.2) hs_)) (fun k_ hk_ => ⟨hk_.1.1.1.2, hk_.1.2, fun e_ => Or.elim (ho0.1 k_ e_.symm) (fun hs_ => hk_.2.1 hs_) (fun hn_ => Nat.not_le.2 hk_.2.2 hn_)⟩)); have n4_ := Aside0.mk (Kd.R_mono (ok' := fun k_ => some k_ ≠ (.slice Ao108 y143.length co108 : Value).ownBlock) (Kd.R_keptB ((Kd.R_apart' HO183.out (Kd.R_typed HO186.out) (by decide))) hkp (fun k_ hk_ hs_ => (hk_.2) hs_)) (fun k_ hk_ => hk_.1.1.2)); have n5_ := Aside0.mk (Kd.R_mono (ok' := fun k_ => some k_ ≠ (.slice Ao107 y140.length co107 : Value).ownBlock ∧ some k_ ≠ (.slice Ao113 t146.length co113 : Value).ownBlock ∧ some k_ ≠ (v191 : Value).ownBlock) (Kd.R_keptB (HO189.out) hkp (fun k_ hk_ hs_ => (hk_.2) hs_)) (fun k_ hk_ => ⟨hk_.1.1.1.2, hk_.1.1.2, fun e_ => Or.elim (ho0.1 k_ e_.symm) (fun hs_ => hk_.2.1 hs_) (fun hn_ => Nat.not_le.2 hk_.2.2 hn_)⟩)); have n6_ := Aside0.mk (Kd.R_mono (ok' := fun k_ => some k_ ≠ (.slice Ao107 y140.length co107 : Value).ownBlock ∧ some k_ ≠ (.slice Ao113 t146.length co113 : Value).ownBlock ∧ some k_ ≠ (.slice Ao119 t187.length co119 : Value).ownBlock) ho0 (fun k_ hk_ => ⟨Or.elim hk_ (fun hs_ => fun e_ => (((HO142.out).1 k_ e_.symm).1.2) hs_) (fun hn_ => (Kd.fresh' (Kd.R_lt (kr_ HO142)) k_ hn_)), Or.elim hk_ (fun hs_ => fun e_ => (((HO148.out).1 k_ e_.symm).1.2) hs_) (fun hn_ => (Kd.fresh' (Kd.R_lt (kr_ HO148)) k_ hn_)), Or.elim hk_ (fun hs_ => fun e_ => (((HO189.out).1 k_ e_.symm).2) hs_) (fun hn_ => (Kd.fresh' (Kd.R_lt (kr_ HO189)) k_ hn_))⟩)); have n7_ := Aside0.mk (hb); clear BK138; clear HO142; clear HO145; clear HO148; clear HO183; clear HO189; clear HB; clear HO186; have BK138 := n0_; have HO142 := n1_; have HO145 := n2_; have HO148 := n3_; have HO183 := n4_; have HO189 := n5_; have HO192 := n6_; have HB := n7_; clear n0_ n1_ n2_ n3_ n4_ n5_ n6_ n7_; (try clear hb); (try clear hkp); (try clear ho0)))
       go_ret2
       exact ⟨_, er_, by (with_reducible repeat (first | apply Kd.R_alloc | apply Kd.R_drewN | apply Kd.R_drew)); exact Kd.R_mono HO192.out (fun _ hk => trivial), bl1_ HB GE138⟩
      ·rw [if_neg c94] at H
       have c94b0 : (a0_0 == 23) = false := beq_eq_false_iff_ne.mpr c94
       have c94b1 : (a0_0 != 23) = true := bne_iff_ne.mpr c94
       by_cases c121 : a0_0 = 16
       ·rw [if_pos c121] at H
        have c121b0 : (a0_0 == 16) = true := beq_iff_eq.mpr c121
        have c121b1 : (a0_0 != 16) = false := bne_eq_false_iff_eq.mpr c121
        clear c121
        obtain ⟨y193, hy193⟩ : ∃ y_ : List Int, y_ = (([a0_2] : List Int)) := ⟨_, rfl⟩
        replace H : ((pdu_lay.f t146 y193).bind fun t196 => ((pdu_lay.f ([] : List Int) l0_3).bind fun t199 => ((pdu_counted.f t196 t199).bind fun t202 => (some (t202, 0))))) = some (r1, r2) := by first | (rw [hy193]; with_reducible exact H) | (have H2_ := (Option.bind_some _ _).symm.trans H; rw [hy193]; with_reducible exact H2_) | (have H2_ := (Option.bind_some _ _).symm.trans H; with_reducible exact H2_) | with_reducible exact H | (rw [hy193]; exact H) | exact H
        have Ny193 := Aside0.mk hy193
        clear hy193
        replace H := Option.bind_eq_some_iff.mp H
        obtain ⟨t196, A1220, H⟩ := H
        replace H : ((pdu_lay.f ([] : List Int) l0_3).bind fun t199 => ((pdu_counted.f t196 t199).bind fun t202 => (some (t202, 0)))) = some (r1, r2) := H
        have A122 := Aside0.mk A1220
        clear A1220
        replace H := Option.bind_eq_some_iff.mp H
        obtain ⟨t199, A1230, H⟩ := H
        replace H : ((pdu_counted.f t196 t199).bind fun t202 => (some (t202, 0))) = some (r1, r2) := H
        have A123 := Aside0.mk A1230
        clear A1230
        replace H := Option.bind_eq_some_iff.mp H
        obtain ⟨t202, A1240, H⟩ := H
        replace H : (some (t202, 0)) = some (r1, r2) := H
        have A124 := Aside0.mk A1240
        clear A1240
        simp only [Option.some.injEq, Prod.mk.injEq] at H
        obtain ⟨rfl, rfl⟩ := H
        go_enter Try.func30, Try.ntmps30
        try go_wp2_with (first | ((with_reducible refine gate_dst (N := 1) rfl ?_); refine bx_ (N := 1) (cs := #[.int .i64 a0_0, .int .i64 a0_1, .int .i64 a0_2, .slice A0_3 l0_3.length c0_3, .int .i64 a0_4, .int .i64 a0_5, .int .i64 a0_6]) (t := 24) ?_; intro gb138 hg w125 hbox hb; have n0_ := Aside0.mk (below_step (bl0_ HB) hb); have n1_ := Aside0.mk (hbox); have n2_ := Aside0.mk ((by rw [hg]; exact (below_size (bl0_ HB)) : w.heap.size ≤ gb138)); have n3_ := Aside0.mk ((by rw [hg]; exact (below_size (bl0_ HB)) : w.heap.size ≤ gb138)); clear HB; have HB := n0_; have BK138 := n1_; have GW138 := n2_; have GE138 := n3_; clear n0_ n1_ n2_ n3_; clear hb hbox hg; refine cz7_ BK138.out ?_; intro hcz126_0 hcz126_1 hcz126_2 hcz126_3 hcz126_4 hcz126_5 hcz126_6 hfz126_0 hfz126_1 hfz126_2 hfz126_3 hfz126_4 hfz126_5 hfz126_6) | ((with_reducible refine gate_callee (f := 29) rfl ?_); refine goesL_ (some 7) rfl rfl Try.func29 (by kernel_rfl) rfl #[.agg #[.int .i64 a0_0, .int .i64 a0_1, .int .i64 a0_2, .slice A0_3 l0_3.length c0_3, .int .i64 a0_4, .int .i64 a0_5, .int .i64 a0_6]] rfl ar_ ?_; (with_reducible refine (pdu_Check.calls k a0_0 a0_1 a0_2 _ _ l0_3 a0_4 a0_5 a0_6 t139 _ ?side1 ?side2 A2.out).mono ?_); (case side1 => exact sc_ (Kd.C_below HR0_3.out HB.out)); (case side2 => exact HC0_3.out); rintro e w127 ⟨rfl, hb⟩; refine ⟨_, rfl, ?_⟩; have n0_ := Aside0.mk (blk_below (g := gb138) (bk_ BK138) hb); have n1_ := Aside0.mk (below_step (bl1_ HB GE138) hb); clear BK138; clear HB; have BK138 := n0_; have HB := n1_; clear n0_ n1_; (try clear hb); (try clear hb2); (try clear hk); (try clear hi); refine cz7_ BK138.out ?_; intro hcz128_0 hcz128_1 hcz128_2 hcz128_3 hcz128_4 hcz128_5 hcz128_6 hfz128_0 hfz128_1 hfz128_2 hfz128_3 hfz128_4 hfz128_5 hfz128_6) | ((with_reducible refine gate_dst (N := 14) rfl ?_); refine Kd.R_lit (Kd.int .u8) _ 5 ?hg (N := 14) ?hd (xs := ([(a0_0) % 256] : List Int)) (inner := [.int .u8 ((a0_0) % 256)]) (ok := fun _ => True) (okp := fun _ => True) ?hr ?hp (fun _ hk => hk) trivial (Below.refl _ _) (Nat.le_refl _) (by simp) ?_; (case hd => rfl); (case hg => rfl); (case hr => first | (go_simp; done) | (go_simp; rfl)); (case hp => exact (Reps.one (show Kd.M (Kd.int .u8) _ _ _ ((a0_0) % 256) [.int .u8 ((a0_0) % 256)] from rfl) (Reps.none _ _))); intro v141 w129 ho130 hb hg_ hnew_; clear hg_ hnew_; (first | rw [← Ny140.out] at ho130 | (simp only [Int.reduceToNat] at ho130; rw [← Ny140.out] at ho130)); have n0_ := Aside0.mk (Kd.R_lower ho130 (below_size (bl1_ HB GE138))); have n1_ := Aside0.mk (blk_below (g := gb138) (bk_ BK138) hb); have n2_ := Aside0.mk (below_step (bl1_ HB GE138) hb); clear BK138; clear HB; have HO142 := n0_; have BK138 := n1_; have HB := n2_; clear n0_ n1_ n2_; clear hb ho130; refine cz7_ BK138.out ?_; intro hcz131_0 hcz131_1 hcz131_2 hcz131_3 hcz131_4 hcz131_5 hcz131_6 hfz131_0 hfz131_1 hfz131_2 hfz131_3 hfz131_4 hfz131_5 hfz131_6) | ((with_reducible refine gate_dst (N := 17) rfl ?_); refine Kd.R_lit (Kd.int .i64) _ 3 ?hg (N := 17) ?hd (xs := ([a0_1] : List Int)) (inner := [.int .i64 a0_1]) (ok := fun _ => True) (okp := fun _ => True) ?hr ?hp (fun _ hk => hk) trivial (Below.refl _ _) (Nat.le_refl _) (by simp) ?_; (case hd => rfl); (case hg => rfl); (case hr => first | (go_simp; done) | (go_simp; rfl)); (case hp => exact (Reps.one (show Kd.M (Kd.int .i64) _ _ _ a0_1 [.int .i64 a0_1] from rfl) (Reps.none _ _))); intro v144 w132 ho133 hb hg_ hnew_; clear hg_ hnew_; (first | rw [← Ny143.out] at ho133 | (simp only [Int.reduceToNat] at ho133; rw [← Ny143.out] at ho133)); have n0_ := Aside0.mk (Kd.R_below (kr_ HO142) hb); have n1_ := Aside0.mk (Kd.R_lower ho133 (below_size (bl1_ HB GE138))); have n2_ := Aside0.mk (blk_below (g := gb138) (bk_ BK138) hb); have n3_ := Aside0.mk (below_step (bl1_ HB GE138) hb); clear HO142; clear BK138; clear HB; have HO142 := n0_; have HO145 := n1_; have BK138 := n2_; have HB := n3_; clear n0_ n1_ n2_ n3_; clear hb ho133; obtain ⟨Ao134, co134, eo134⟩ := Kd.R_slice HO142.out; subst eo134; obtain ⟨Ao135, co135, eo135⟩ := Kd.R_slice HO145.out; subst eo135) | ((with_reducible refine gate_callee (f := 53) rfl ?_); refine goesL_ (some 18) rfl rfl Try.func53 (by kernel_rfl) rfl #[.slice Ao134 y140.length co134, .slice Ao135 y143.length co135] rfl ar_ ?_; (with_reducible refine (pdu_lay.calls _ _ y140 _ _ y143 t146 _ ?side1 ?side2 ?side3 ?side4 A4.out).mono ?_); (case side1 => exact sc_ (Kd.R_reads' HO142.out).2.2); (case side2 => exact (Kd.R_reads' HO142.out).2.1); (case side3 => exact sc_ (Kd.R_reads' HO145.out).2.2); (case side4 => exact (Kd.R_reads' HO145.out).2.1); rintro e w136 ⟨v147, rfl, ho0, hb⟩; refine ⟨_, rfl, ?_⟩; have n0_ := Aside0.mk (Kd.R_elder' (kr_ HO142) (Kd.R_base ho0) hb); have n1_ := Aside0.mk (Kd.R_below (kr_ HO145) hb); have n2_ := Aside0.mk (Kd.R_lower (Kd.R_new' ho0 (Kd.R_lt (kr_ HO142))) (below_size (bl1_ HB GE138))); have n3_ := Aside0.mk (blk_below (g := gb138) (bk_ BK138) hb); have n4_ := Aside0.mk (below_step (bl1_ HB GE138) hb); clear HO142; clear HO145; clear BK138; clear HB; have HO142 := n0_; have HO145 := n1_; have HO148 := n2_; have BK138 := n3_; have HB := n4_; clear n0_ n1_ n2_ n3_ n4_; (try clear hb); (try clear hb2); (try clear hk); (try clear hi); (try clear ho0); refine cz7_ BK138.out ?_; intro hcz137_0 hcz137_1 hcz137_2 hcz137_3 hcz137_4 hcz137_5 hcz137_6 hfz137_0 hfz137_1 hfz137_2 hfz137_3 hfz137_4 hfz137_5 hfz137_6))
        have n0_ := Aside0.mk (Kd.R_drew HO142.out)
        have n1_ := Aside0.mk (Kd.R_drew HO145.out)
        have n2_ := Aside0.mk (Kd.R_drew HO148.out)
        have n3_ := Aside0.mk (blk_drew BK138.out)
        have n4_ := Aside0.mk (below_drew1 HB.out)
        clear HO142
        clear HO145
        clear HO148
        clear BK138
        clear HB
        have HO142 := n0_
        have HO145 := n1_
        have HO148 := n2_
        have BK138 := n3_
        have HB := n4_
        clear n0_ n1_ n2_ n3_ n4_
        refine start_ (n := 10) (S := fun w' => w'.cell? ⟨gb138, 0, none⟩ = some (.int .i64 a0_0) ∧ w'.cell? ⟨gb138, 1, none⟩ = some (.int .i64 a0_1) ∧ w'.cell? ⟨gb138, 2, none⟩ = some (.int .i64 a0_2) ∧ w'.cell? ⟨gb138, 3, none⟩ = some (.slice A0_3 l0_3.length c0_3) ∧ w'.cell? ⟨gb138, 4, none⟩ = some (.int .i64 a0_4) ∧ w'.cell? ⟨gb138, 5, none⟩ = some (.int .i64 a0_5) ∧ w'.cell? ⟨gb138, 6, none⟩ = some (.int .i64 a0_6)) (ds := []) #[false, false, false, false, false, false, false, false, false, false] (by kernel_rfl) rfl rfl ⟨(blk_cell BK138.out 0).trans rfl, (blk_cell BK138.out 1).trans rfl, (blk_cell BK138.out 2).trans rfl, (blk_cell BK138.out 3).trans rfl, (blk_cell BK138.out 4).trans rfl, (blk_cell BK138.out 5).trans rfl, (blk_cell BK138.out 6).trans rfl⟩ (fun hHeld => ?_); refine with_tabW pdu_Bytes.tab19 pdu_Bytes.bits19 (fun HT_ HW_ => ?_)
        generalize w136.drew = w138 at HO142 HO145 HO148 BK138 HB hHeld ⊢
        refine pure_ (i := 0) (N := some 84) (v := ?_) (a' := ?_) #[true, false, false, false, false, false, false, false, false, false] rfl rfl (any_of HT_.out (by kernel_rfl)) (fun _ _ _ h => h) (Or.inl ⟨by rfl, ?_⟩) ?_ ?_
        rotate_left
        ·intro w'
         go_simp
         with_reducible rfl
        rotate_left
        ·simp only [Act.put, List.setIfInBounds_toArray, List.set_cons_zero, List.set_cons_succ, i64_w, i32_w]
         rfl
        refine pure_ (i := 1) (N := some 85) (v := ?_) (a' := ?_) #[true, true, false, false, false, false, false, false, false, false] rfl rfl (any_of HT_.out (by kernel_rfl)) (fun _ _ _ h => h) (Or.inl ⟨by rfl, ?_⟩) ?_ ?_
        rotate_left
        ·intro w'
         go_simp
         with_reducible rfl
        rotate_left
        ·simp only [Act.put, List.setIfInBounds_toArray, List.set_cons_zero, List.set_cons_succ, i64_w, i32_w]
         rfl
        refine pure_ (i := 5) (N := some 89) (v := ?_) (a' := ?_) #[true, true, false, false, false, true, false, false, false, false] rfl rfl (any_of HT_.out (by kernel_rfl)) (fun _ _ _ h => h) (Or.inl ⟨by rfl, ?_⟩) ?_ ?_
        rotate_left
        ·intro w'
         go_simp
         with_reducible rfl
        rotate_left
        ·simp only [Act.put, List.setIfInBounds_toArray, List.set_cons_zero, List.set_cons_succ, i64_w, i32_w]
         rfl
        refine take_ (i := 2) (N := some 86) (v := ?_) (a' := ?_) #[true, true, true, false, false, true, false, false, false, false] rfl rfl (take_ofW HT_.out HW_.out (by kernel_rfl)) (fun _ _ _ h => h) (Or.inl ⟨by rfl, ?_⟩) hHeld ?_ ?_
        rotate_left
        ·rintro w' ⟨s0, s1, s2, s3, s4, s5, s6⟩
         go_simp
         with_reducible rfl
        rotate_left
        ·simp only [Act.put, List.setIfInBounds_toArray, List.set_cons_zero, List.set_cons_succ, i64_w, i32_w]
         rfl
        refine take_ (i := 6) (N := some 90) (v := ?_) (a' := ?_) #[true, true, true, false, false, true, true, false, false, false] rfl rfl (take_ofW HT_.out HW_.out (by kernel_rfl)) (fun _ _ _ h => h) (Or.inl ⟨by rfl, ?_⟩) hHeld ?_ ?_
        rotate_left
        ·rintro w' ⟨s0, s1, s2, s3, s4, s5, s6⟩
         go_simp
         with_reducible rfl
        rotate_left
        ·simp only [Act.put, List.setIfInBounds_toArray, List.set_cons_zero, List.set_cons_succ, i64_w, i32_w]
         rfl
        refine one_ (i := 3) (N := some 87) #[true, true, true, true, false, true, true, false, false, false] rfl rfl (one_of HT_.out (by kernel_rfl)) (by decide) (fun K hK => ?_)
        refine Kd.R_lit_step (Kd.int .i64) _ 3 ?hg (N := 87) ?hd (xs := ([a0_2] : List Int)) (inner := [.int .i64 a0_2]) (ok := fun _ => True) (okp := fun _ => True) ?hr ?hp (fun _ hk => hk) trivial (Below.refl _ _) (Nat.le_refl _) (by simp) ?_; (case hd => rfl); (case hg => rfl); (case hr => first | (go_simp; done) | (go_simp; rfl)); (case hp => exact (Reps.one (show Kd.M (Kd.int .i64) _ _ _ a0_2 [.int .i64 a0_2] from rfl) (Reps.none _ _)))
        intro v194 w139 ho140 hb hg_ hnew_
        clear hg_ hnew_
        (first | rw [← Ny193.out] at ho140 | (simp only [Int.reduceToNat] at ho140; rw [← Ny193.out] at ho140))
        have n0_ := Aside0.mk (Kd.R_below (kr_ HO142) hb)
        have n1_ := Aside0.mk (Kd.R_elder' (kr_ HO145) (Kd.R_base ho140) hb)
        have n2_ := Aside0.mk (Kd.R_below (kr_ HO148) hb)
        have n3_ := Aside0.mk (Kd.R_lower (Kd.R_new' ho140 (Kd.R_lt (kr_ HO145))) (below_size (bl1_ HB GE138)))
        have n4_ := Aside0.mk (blk_below (g := gb138) (bk_ BK138) hb)
        have n5_ := Aside0.mk (below_step (bl1_ HB GE138) hb)
        clear HO142
        clear HO145
        clear HO148
        clear BK138
        clear HB
        have HO142 := n0_
        have HO145 := n1_
        have HO148 := n2_
        have HO195 := n3_
        have BK138 := n4_
        have HB := n5_
        clear n0_ n1_ n2_ n3_ n4_ n5_
        clear hb ho140
        obtain ⟨Ao141, co141, eo141⟩ := Kd.R_slice HO148.out
        (first | subst eo141 | (injection eo141 with f1_ f2_ f3_; have f4_ := f1_.symm; have f5_ := f3_.symm; clear f1_ f2_ f3_; subst f4_; subst f5_))
        obtain ⟨Ao142, co142, eo142⟩ := Kd.R_slice HO195.out
        (first | subst eo142 | (injection eo142 with f1_ f2_ f3_; have f4_ := f1_.symm; have f5_ := f3_.symm; clear f1_ f2_ f3_; subst f4_; subst f5_))
        refine hK.out _ _ ⟨(blk_cell BK138.out 0).trans rfl, (blk_cell BK138.out 1).trans rfl, (blk_cell BK138.out 2).trans rfl, (blk_cell BK138.out 3).trans rfl, (blk_cell BK138.out 4).trans rfl, (blk_cell BK138.out 5).trans rfl, (blk_cell BK138.out 6).trans rfl⟩ (fun hHeld => ?_)
        clear hK K
        refine norm_ (a' := ?_) ?_ ?_
        rotate_left
        ·show Act.put _ (some 87) _ = _
         simp only [Act.put, List.setIfInBounds_toArray, List.set_cons_zero, List.set_cons_succ, i64_w, i32_w]
         rfl
        refine one_ (i := 4) (N := some 88) #[true, true, true, true, true, true, true, false, false, false] rfl rfl (one_of HT_.out (by kernel_rfl)) (by decide) (fun K hK => ?_)
        refine goes_ Try.func53 (by kernel_rfl) rfl #[.slice Ao141 t146.length co141, .slice Ao142 y193.length co142] (by rfl) rfl rfl ar_ ?_
        with_reducible refine (pdu_lay.calls _ _ t146 _ _ y193 t196 _ ?side1 ?side2 ?side3 ?side4 A122.out).mono ?_
        (case side1 => exact sc_ (Kd.R_reads' HO148.out).2.2)
        (case side2 => exact (Kd.R_reads' HO148.out).2.1)
        (case side3 => exact sc_ (Kd.R_reads' HO195.out).2.2)
        (case side4 => exact (Kd.R_reads' HO195.out).2.1)
        rintro e w143 ⟨v197, rfl, ho0, hb⟩
        refine ⟨_, rfl, ?_⟩
        have n0_ := Aside0.mk (Kd.R_elder' (kr_ HO142) (Kd.R_base ho0) hb)
        have n1_ := Aside0.mk (Kd.R_below (kr_ HO145) hb)
        have n2_ := Aside0.mk (Kd.R_elder' (kr_ HO148) (Kd.R_base ho0) hb)
        have n3_ := Aside0.mk (Kd.R_below (kr_ HO195) hb)
        have n4_ := Aside0.mk (Kd.R_lower (Kd.R_new' (Kd.R_new' ho0 (Kd.R_lt (kr_ HO142))) (Kd.R_lt (kr_ HO148))) (below_size (bl1_ HB GE138)))
        have n5_ := Aside0.mk (blk_below (g := gb138) (bk_ BK138) hb)
        have n6_ := Aside0.mk (below_step (bl1_ HB GE138) hb)
        clear HO142
        clear HO145
        clear HO148
        clear HO195
        clear BK138
        clear HB
        have HO142 := n0_
        have HO145 := n1_
        have HO148 := n2_
        have HO195 := n3_
        have HO198 := n4_
        have BK138 := n5_
        have HB := n6_
        clear n0_ n1_ n2_ n3_ n4_ n5_ n6_
        (try clear hb)
        (try clear hb2)
        (try clear hk)
        (try clear hi)
        (try clear ho0)
        refine hK.out _ _ ⟨(blk_cell BK138.out 0).trans rfl, (blk_cell BK138.out 1).trans rfl, (blk_cell BK138.out 2).trans rfl, (blk_cell BK138.out 3).trans rfl, (blk_cell BK138.out 4).trans rfl, (blk_cell BK138.out 5).trans rfl, (blk_cell BK138.out 6).trans rfl⟩ (fun hHeld => ?_)
        clear hK K
        refine norm_ (a' := ?_) ?_ ?_
        rotate_left
        ·show Act.put _ (some 88) _ = _
         simp only [Act.put, List.setIfInBounds_toArray, List.set_cons_zero, List.set_cons_succ, i64_w, i32_w]
         rfl
        refine one_ (i := 7) (N := some 91) #[true, true, true, true, true, true, true, true, false, false] rfl rfl (one_of HT_.out (by kernel_rfl)) (by decide) (fun K hK => ?_)
        refine goes_ Try.func53 (by kernel_rfl) rfl #[.slice none 0 0, .slice A0_3 l0_3.length c0_3] (by rfl) rfl rfl ar_ ?_
        refine (pdu_lay.calls _ _ ([] : List Int) _ _ l0_3 t199 _ ?side1 ?side2 ?side3 ?side4 A123.out).mono ?_
        (case side1 => exact Kd.C_nil _ _)
        (case side2 => exact Nat.le_refl _)
        (case side3 => exact sc_ (Kd.C_below HR0_3.out HB.out))
        (case side4 => exact HC0_3.out)
        rintro e w144 ⟨v200, rfl, ho0, hb⟩
        refine ⟨_, rfl, ?_⟩
        have n0_ := Aside0.mk (Kd.R_elder' (kr_ HO142) (Kd.R_base ho0) hb)
        have n1_ := Aside0.mk (Kd.R_below (kr_ HO145) hb)
        have n2_ := Aside0.mk (Kd.R_elder' (kr_ HO148) (Kd.R_base ho0) hb)
        have n3_ := Aside0.mk (Kd.R_below (kr_ HO195) hb)
        have n4_ := Aside0.mk (Kd.R_elder' (kr_ HO198) (Kd.R_base ho0) hb)
        have n5_ := Aside0.mk (Kd.R_lower (Kd.R_new' (Kd.R_new' (Kd.R_new' ho0 (Kd.R_lt (kr_ HO142))) (Kd.R_lt (kr_ HO148))) (Kd.R_lt (kr_ HO198))) (below_size (bl1_ HB GE138)))
        have n6_ := Aside0.mk (blk_below (g := gb138) (bk_ BK138) hb)
        have n7_ := Aside0.mk (below_step (bl1_ HB GE138) hb)
        clear HO142
        clear HO145
        clear HO148
        clear HO195
        clear HO198
        clear BK138
        clear HB
        have HO142 := n0_
        have HO145 := n1_
        have HO148 := n2_
        have HO195 := n3_
        have HO198 := n4_
        have HO201 := n5_
        have BK138 := n6_
        have HB := n7_
        clear n0_ n1_ n2_ n3_ n4_ n5_ n6_ n7_
        (try clear hb)
        (try clear hb2)
        (try clear hk)
        (try clear hi)
        (try clear ho0)
        obtain ⟨Ao145, co145, eo145⟩ := Kd.R_slice HO198.out
        (first | subst eo145 | (injection eo145 with f1_ f2_ f3_; have f4_ := f1_.symm; have f5_ := f3_.symm; clear f1_ f2_ f3_; subst f4_; subst f5_))
        obtain ⟨Ao146, co146, eo146⟩ := Kd.R_slice HO201.out
        (first | subst eo146 | (injection eo146 with f1_ f2_ f3_; have f4_ := f1_.symm; have f5_ := f3_.symm; clear f1_ f2_ f3_; subst f4_; subst f5_))
        refine hK.out _ _ ⟨(blk_cell BK138.out 0).trans rfl, (blk_cell BK138.out 1).trans rfl, (blk_cell BK138.out 2).trans rfl, (blk_cell BK138.out 3).trans rfl, (blk_cell BK138.out 4).trans rfl, (blk_cell BK138.out 5).trans rfl, (blk_cell BK138.out 6).trans rfl⟩ (fun hHeld => ?_)
        clear hK K
        refine norm_ (a' := ?_) ?_ ?_
        rotate_left
        ·show Act.put _ (some 91) _ = _
         simp only [Act.put, List.setIfInBounds_toArray, List.set_cons_zero, List.set_cons_succ, i64_w, i32_w]
         rfl
        refine one_ (i := 8) (N := some 92) #[true, true, true, true, true, true, true, true, true, false] rfl rfl (one_of HT_.out (by kernel_rfl)) (by decide) (fun K hK => ?_)
        refine goes_ Try.func54 (by kernel_rfl) rfl #[.slice Ao145 t196.length co145, .slice Ao146 t199.length co146] (by rfl) rfl rfl ar_ ?_
        with_reducible refine (pdu_counted.calls (fun k_ => some k_ = (.slice Ao145 t196.length co145 : Value).ownBlock) (.slice Ao145 t196.length co145) t196 _ _ t199 t202 w _ ?side1 ?side2 ?side3 ?side4 A124.out).mono ?_
        (case side1 => repeat (first | (with_reducible first | exact HB.out | apply below_alloc | apply pw_below_drewN | apply below_drew1 | refine below_set ?_ GE138.out) | exact HB.out))
        (case side2 => exact Kd.R_tight rfl HO198.out)
        (case side3 => exact Kd.C_kept_own (HO201.out) (fun k_ hk_ hs_ => (hk_.2) hs_))
        (case side4 => exact (Kd.R_reads' HO201.out).2.1)
        rintro e w147 ⟨v203, rfl, ho0, hb, hkp⟩
        refine ⟨_, rfl, ?_⟩
        have n0_ := Aside0.mk (blk_kept (bk_ BK138) hkp (fun hs_ => (fun e_ => (Kd.R_ne HO198.out BK138.out (by decide)) e_) hs_))
        have n1_ := Aside0.mk (Kd.R_mono (ok' := fun k_ => some k_ ≠ (.slice Ao141 t146.length co141 : Value).ownBlock ∧ some k_ ≠ (.slice Ao146 t199.length co146 : Value).ownBlock ∧ some k_ ≠ (v203 : Value).ownBlock) (Kd.R_keptB (HO142.out) hkp (fun k_ hk_ hs_ => (hk_.1.2) hs_)) (fun k_ hk_ => ⟨hk_.1.1.1.2, hk_.1.2, fun e_ => Or.elim (ho0.1 k_ e_.symm) (fun hs_ => hk_.2.1 hs_) (fun hn_ => Nat.not_le.2 hk_.2.2 hn_)⟩))
        have n2_ := Aside0.mk (Kd.R_mono (ok' := fun k_ => some k_ ≠ (.slice Ao142 y193.length co142 : Value).ownBlock) (Kd.R_keptB ((Kd.R_apart' HO145.out (Kd.R_typed HO198.out) (by decide))) hkp (fun k_ hk_ hs_ => (hk_.2) hs_)) (fun k_ hk_ => hk_.1.1.2))
        have n3_ := Aside0.mk (Kd.R_mono (ok' := fun k_ => some k_ ≠ (.slice Ao134 y140.length co134 : Value).ownBlock ∧ some k_ ≠ (.slice Ao146 t199.length co146 : Value).ownBlock ∧ some k_ ≠ (v203 : Value).ownBlock) (Kd.R_keptB (HO148.out) hkp (fun k_ hk_ hs_ => (hk_.1.2) hs_)) (fun k_ hk_ => ⟨hk_.1.1.1.2, hk_.1.2, fun e_ => Or.elim (ho0.1 k_ e_.symm) (fun hs_ => hk_.2.1 hs_) (fun hn_ => Nat.not_le.2 hk_.2.2 hn_)⟩))
        have n4_ := Aside0.mk (Kd.R_mono (ok' := fun k_ => some k_ ≠ (.slice Ao135 y143.length co135 : Value).ownBlock) (Kd.R_keptB ((Kd.R_apart' HO195.out (Kd.R_typed HO198.out) (by decide))) hkp (fun k_ hk_ hs_ => (hk_.2) hs_)) (fun k_ hk_ => hk_.1.1.2))
        have n5_ := Aside0.mk (Kd.R_mono (ok' := fun k_ => some k_ ≠ (.slice Ao134 y140.length co134 : Value).ownBlock ∧ some k_ ≠ (.slice Ao141 t146.length co141 : Value).ownBlock ∧ some k_ ≠ (v203 : Value).ownBlock) (Kd.R_keptB (HO201.out) hkp (fun k_ hk_ hs_ => (hk_.2) hs_)) (fun k_ hk_ => ⟨hk_.1.1.1.2, hk_.1.1.2, fun e_ => Or.elim (ho0.1 k_ e_.symm) (fun hs_ => hk_.2.1 hs_) (fun hn_ => Nat.not_le.2 hk_.2.2 hn_)⟩))
        have n6_ := Aside0.mk (Kd.R_mono (ok' := fun k_ => some k_ ≠ (.slice Ao134 y140.length co134 : Value).ownBlock ∧ some k_ ≠ (.slice Ao141 t146.length co141 : Value).ownBlock ∧ some k_ ≠ (.slice Ao146 t199.length co146 : Value).ownBlock) ho0 (fun k_ hk_ => ⟨Or.elim hk_ (fun hs_ => fun e_ => (((HO142.out).1 k_ e_.symm).1.2) hs_) (fun hn_ => (Kd.fresh' (Kd.R_lt (kr_ HO142)) k_ hn_)), Or.elim hk_ (fun hs_ => fun e_ => (((HO148.out).1 k_ e_.symm).1.2) hs_) (fun hn_ => (Kd.fresh' (Kd.R_lt (kr_ HO148)) k_ hn_)), Or.elim hk_ (fun hs_ => fun e_ => (((HO201.out).1 k_ e_.symm).2) hs_) (fun hn_ => (Kd.fresh' (Kd.R_lt (kr_ HO201)) k_ hn_))⟩))
        have n7_ := Aside0.mk (hb)
        clear BK138
        clear HO142
        clear HO145
        clear HO148
        clear HO195
        clear HO201
        clear HB
        clear HO198
        have BK138 := n0_
        have HO142 := n1_
        have HO145 := n2_
        have HO148 := n3_
        have HO195 := n4_
        have HO201 := n5_
        have HO204 := n6_
        have HB := n7_
        clear n0_ n1_ n2_ n3_ n4_ n5_ n6_ n7_
        (try clear hb)
        (try clear hkp)
        (try clear ho0)
        refine hK.out _ _ ⟨(blk_cell BK138.out 0).trans rfl, (blk_cell BK138.out 1).trans rfl, (blk_cell BK138.out 2).trans rfl, (blk_cell BK138.out 3).trans rfl, (blk_cell BK138.out 4).trans rfl, (blk_cell BK138.out 5).trans rfl, (blk_cell BK138.out 6).trans rfl⟩ (fun hHeld => ?_)
        clear hK K
        refine norm_ (a' := ?_) ?_ ?_
        rotate_left
        ·show Act.put _ (some 92) _ = _
         simp only [Act.put, List.setIfInBounds_toArray, List.set_cons_zero, List.set_cons_succ, i64_w, i32_w]
         rfl
        refine pure_ (i := 9) (N := some 5) (v := ?_) (a' := ?_) #[true, true, true, true, true, true, true, true, true, true] rfl rfl (any_of HT_.out (by kernel_rfl)) (fun _ _ _ h => h) (Or.inl ⟨by rfl, ?_⟩) ?_ ?_
        rotate_left
        ·intro w'
         go_simp
         with_reducible rfl
        rotate_left
        ·simp only [Act.put, List.setIfInBounds_toArray, List.set_cons_zero, List.set_cons_succ, i64_w, i32_w]
         rfl
        refine done_ (done_of HT_.out (by kernel_rfl)) ?_
        try go_wp2
        go_ret2
        exact ⟨_, er_, by (with_reducible repeat (first | apply Kd.R_alloc | apply Kd.R_drewN | apply Kd.R_drew)); exact Kd.R_mono HO204.out (fun _ hk => trivial), bl1_ HB GE138⟩
       ·rw [if_neg c121] at H
        have c121b0 : (a0_0 == 16) = false := beq_eq_false_iff_ne.mpr c121
        have c121b1 : (a0_0 != 16) = true := bne_iff_ne.mpr c121
        obtain ⟨y205, hy205⟩ : ∃ y_ : List Int, y_ = (([a0_2] : List Int)) := ⟨_, rfl⟩
        replace H : ((pdu_lay.f t146 y205).bind fun t208 => (some (t208, 0))) = some (r1, r2) := by first | (rw [hy205]; with_reducible exact H) | (have H2_ := (Option.bind_some _ _).symm.trans H; rw [hy205]; with_reducible exact H2_) | (have H2_ := (Option.bind_some _ _).symm.trans H; with_reducible exact H2_) | with_reducible exact H | (rw [hy205]; exact H) | exact H
        have Ny205 := Aside0.mk hy205
        clear hy205
        replace H := Option.bind_eq_some_iff.mp H
        obtain ⟨t208, A1480, H⟩ := H
        replace H : (some (t208, 0)) = some (r1, r2) := H
        have A148 := Aside0.mk A1480
        clear A1480
        simp only [Option.some.injEq, Prod.mk.injEq] at H
        obtain ⟨rfl, rfl⟩ := H
        go_enter Try.func30, Try.ntmps30
        go_wp2_with (first | ((with_reducible refine gate_dst (N := 1) rfl ?_); refine bx_ (N := 1) (cs := #[.int .i64 a0_0, .int .i64 a0_1, .int .i64 a0_2, .slice A0_3 l0_3.length c0_3, .int .i64 a0_4, .int .i64 a0_5, .int .i64 a0_6]) (t := 24) ?_; intro gb138 hg w149 hbox hb; have n0_ := Aside0.mk (below_step (bl0_ HB) hb); have n1_ := Aside0.mk (hbox); have n2_ := Aside0.mk ((by rw [hg]; exact (below_size (bl0_ HB)) : w.heap.size ≤ gb138)); have n3_ := Aside0.mk ((by rw [hg]; exact (below_size (bl0_ HB)) : w.heap.size ≤ gb138)); clear HB; have HB := n0_; have BK138 := n1_; have GW138 := n2_; have GE138 := n3_; clear n0_ n1_ n2_ n3_; clear hb hbox hg; refine cz7_ BK138.out ?_; intro hcz150_0 hcz150_1 hcz150_2 hcz150_3 hcz150_4 hcz150_5 hcz150_6 hfz150_0 hfz150_1 hfz150_2 hfz150_3 hfz150_4 hfz150_5 hfz150_6) | ((with_reducible refine gate_callee (f := 29) rfl ?_); refine goesL_ (some 7) rfl rfl Try.func29 (by kernel_rfl) rfl #[.agg #[.int .i64 a0_0, .int .i64 a0_1, .int .i64 a0_2, .slice A0_3 l0_3.length c0_3, .int .i64 a0_4, .int .i64 a0_5, .int .i64 a0_6]] rfl ar_ ?_; (with_reducible refine (pdu_Check.calls k a0_0 a0_1 a0_2 _ _ l0_3 a0_4 a0_5 a0_6 t139 _ ?side1 ?side2 A2.out).mono ?_); (case side1 => exact sc_ (Kd.C_below HR0_3.out HB.out)); (case side2 => exact HC0_3.out); rintro e w151 ⟨rfl, hb⟩; refine ⟨_, rfl, ?_⟩; have n0_ := Aside0.mk (blk_below (g := gb138) (bk_ BK138) hb); have n1_ := Aside0.mk (below_step (bl1_ HB GE138) hb); clear BK138; clear HB; have BK138 := n0_; have HB := n1_; clear n0_ n1_; (try clear hb); (try clear hb2); (try clear hk); (try clear hi); refine cz7_ BK138.out ?_; intro hcz152_0 hcz152_1 hcz152_2 hcz152_3 hcz152_4 hcz152_5 hcz152_6 hfz152_0 hfz152_1 hfz152_2 hfz152_3 hfz152_4 hfz152_5 hfz152_6) | ((with_reducible refine gate_dst (N := 14) rfl ?_); refine Kd.R_lit (Kd.int .u8) _ 5 ?hg (N := 14) ?hd (xs := ([(a0_0) % 256] : List Int)) (inner := [.int .u8 ((a0_0) % 256)]) (ok := fun _ => True) (okp := fun _ => True) ?hr ?hp (fun _ hk => hk) trivial (Below.refl _ _) (Nat.le_refl _) (by simp) ?_; (case hd => rfl); (case hg => rfl); (case hr => first | (go_simp; done) | (go_simp; rfl)); (case hp => exact (Reps.one (show Kd.M (Kd.int .u8) _ _ _ ((a0_0) % 256) [.int .u8 ((a0_0) % 256)] from rfl) (Reps.none _ _))); intro v141 w153 ho154 hb hg_ hnew_; clear hg_ hnew_; (first | rw [← Ny140.out] at ho154 | (simp only [Int.reduceToNat] at ho154; rw [← Ny140.out] at ho154)); have n0_ := Aside0.mk (Kd.R_lower ho154 (below_size (bl1_ HB GE138))); have n1_ := Aside0.mk (blk_below (g := gb138) (bk_ BK138) hb); have n2_ := Aside0.mk (below_step (bl1_ HB GE138) hb); clear BK138; clear HB; have HO142 := n0_; have BK138 := n1_; have HB := n2_; clear n0_ n1_ n2_; clear hb ho154; refine cz7_ BK138.out ?_; intro hcz155_0 hcz155_1 hcz155_2 hcz155_3 hcz155_4 hcz155_5 hcz155_6 hfz155_0 hfz155_1 hfz155_2 hfz155_3 hfz155_4 hfz155_5 hfz155_6) | ((with_reducible refine gate_dst (N := 17) rfl ?_); refine Kd.R_lit (Kd.int .i64) _ 3 ?hg (N := 17) ?hd (xs := ([a0_1] : List Int)) (inner := [.int .i64 a0_1]) (ok := fun _ => True) (okp := fun _ => True) ?hr ?hp (fun _ hk => hk) trivial (Below.refl _ _) (Nat.le_refl _) (by simp) ?_; (case hd => rfl); (case hg => rfl); (case hr => first | (go_simp; done) | (go_simp; rfl)); (case hp => exact (Reps.one (show Kd.M (Kd.int .i64) _ _ _ a0_1 [.int .i64 a0_1] from rfl) (Reps.none _ _))); intro v144 w156 ho157 hb hg_ hnew_; clear hg_ hnew_; (first | rw [← Ny143.out] at ho157 | (simp only [Int.reduceToNat] at ho157; rw [← Ny143.out] at ho157)); have n0_ := Aside0.mk (Kd.R_below (kr_ HO142) hb); have n1_ := Aside0.mk (Kd.R_lower ho157 (below_size (bl1_ HB GE138))); have n2_ := Aside0.mk (blk_below (g := gb138) (bk_ BK138) hb); have n3_ := Aside0.mk (below_step (bl1_ HB GE138) hb); clear HO142; clear BK138; clear HB; have HO142 := n0_; have HO145 := n1_; have BK138 := n2_; have HB := n3_; clear n0_ n1_ n2_ n3_; clear hb ho157; obtain ⟨Ao158, co158, eo158⟩ := Kd.R_slice HO142.out; subst eo158; obtain ⟨Ao159, co159, eo159⟩ := Kd.R_slice HO145.out; subst eo159) | ((with_reducible refine gate_callee (f := 53) rfl ?_); refine goesL_ (some 18) rfl rfl Try.func53 (by kernel_rfl) rfl #[.slice Ao158 y140.length co158, .slice Ao159 y143.length co159] rfl ar_ ?_; (with_reducible refine (pdu_lay.calls _ _ y140 _ _ y143 t146 _ ?side1 ?side2 ?side3 ?side4 A4.out).mono ?_); (case side1 => exact sc_ (Kd.R_reads' HO142.out).2.2); (case side2 => exact (Kd.R_reads' HO142.out).2.1); (case side3 => exact sc_ (Kd.R_reads' HO145.out).2.2); (case side4 => exact (Kd.R_reads' HO145.out).2.1); rintro e w160 ⟨v147, rfl, ho0, hb⟩; refine ⟨_, rfl, ?_⟩; have n0_ := Aside0.mk (Kd.R_elder' (kr_ HO142) (Kd.R_base ho0) hb); have n1_ := Aside0.mk (Kd.R_below (kr_ HO145) hb); have n2_ := Aside0.mk (Kd.R_lower (Kd.R_new' ho0 (Kd.R_lt (kr_ HO142))) (below_size (bl1_ HB GE138))); have n3_ := Aside0.mk (blk_below (g := gb138) (bk_ BK138) hb); have n4_ := Aside0.mk (below_step (bl1_ HB GE138) hb); clear HO142; clear HO145; clear BK138; clear HB; have HO142 := n0_; have HO145 := n1_; have HO148 := n2_; have BK138 := n3_; have HB := n4_; clear n0_ n1_ n2_ n3_ n4_; (try clear hb); (try clear hb2); (try clear hk); (try clear hi); (try clear ho0); refine cz7_ BK138.out ?_; intro hcz161_0 hcz161_1 hcz161_2 hcz161_3 hcz161_4 hcz161_5 hcz161_6 hfz161_0 hfz161_1 hfz161_2 hfz161_3 hfz161_4 hfz161_5 hfz161_6) | ((with_reducible refine gate_dst (N := 24) rfl ?_); refine Kd.R_lit (Kd.int .i64) _ 3 ?hg (N := 24) ?hd (xs := ([a0_2] : List Int)) (inner := [.int .i64 a0_2]) (ok := fun _ => True) (okp := fun _ => True) ?hr ?hp (fun _ hk => hk) trivial (Below.refl _ _) (Nat.le_refl _) (by simp) ?_; (case hd => rfl); (case hg => rfl); (case hr => first | (go_simp; done) | (go_simp; rfl)); (case hp => exact (Reps.one (show Kd.M (Kd.int .i64) _ _ _ a0_2 [.int .i64 a0_2] from rfl) (Reps.none _ _))); intro v206 w162 ho163 hb hg_ hnew_; clear hg_ hnew_; (first | rw [← Ny205.out] at ho163 | (simp only [Int.reduceToNat] at ho163; rw [← Ny205.out] at ho163)); have n0_ := Aside0.mk (Kd.R_below (kr_ HO142) hb); have n1_ := Aside0.mk (Kd.R_elder' (kr_ HO145) (Kd.R_base ho163) hb); have n2_ := Aside0.mk (Kd.R_below (kr_ HO148) hb); have n3_ := Aside0.mk (Kd.R_lower (Kd.R_new' ho163 (Kd.R_lt (kr_ HO145))) (below_size (bl1_ HB GE138))); have n4_ := Aside0.mk (blk_below (g := gb138) (bk_ BK138) hb); have n5_ := Aside0.mk (below_step (bl1_ HB GE138) hb); clear HO142; clear HO145; clear HO148; clear BK138; clear HB; have HO142 := n0_; have HO145 := n1_; have HO148 := n2_; have HO207 := n3_; have BK138 := n4_; have HB := n5_; clear n0_ n1_ n2_ n3_ n4_ n5_; clear hb ho163; obtain ⟨Ao164, co164, eo164⟩ := Kd.R_slice HO148.out; subst eo164; obtain ⟨Ao165, co165, eo165⟩ := Kd.R_slice HO207.out; subst eo165) | ((with_reducible refine gate_callee (f := 53) rfl ?_); refine goesL_ (some 25) rfl rfl Try.func53 (by kernel_rfl) rfl #[.slice Ao164 t146.length co164, .slice Ao165 y205.length co165] rfl ar_ ?_; (with_reducible refine (pdu_lay.calls _ _ t146 _ _ y205 t208 _ ?side1 ?side2 ?side3 ?side4 A148.out).mono ?_); (case side1 => exact sc_ (Kd.R_reads' HO148.out).2.2); (case side2 => exact (Kd.R_reads' HO148.out).2.1); (case side3 => exact sc_ (Kd.R_reads' HO207.out).2.2); (case side4 => exact (Kd.R_reads' HO207.out).2.1); rintro e w166 ⟨v209, rfl, ho0, hb⟩; refine ⟨_, rfl, ?_⟩; have n0_ := Aside0.mk (Kd.R_elder' (kr_ HO142) (Kd.R_base ho0) hb); have n1_ := Aside0.mk (Kd.R_below (kr_ HO145) hb); have n2_ := Aside0.mk (Kd.R_elder' (kr_ HO148) (Kd.R_base ho0) hb); have n3_ := Aside0.mk (Kd.R_below (kr_ HO207) hb); have n4_ := Aside0.mk (Kd.R_lower (Kd.R_new' (Kd.R_new' ho0 (Kd.R_lt (kr_ HO142))) (Kd.R_lt (kr_ HO148))) (below_size (bl1_ HB GE138))); have n5_ := Aside0.mk (blk_below (g := gb138) (bk_ BK138) hb); have n6_ := Aside0.mk (below_step (bl1_ HB GE138) hb); clear HO142; clear HO145; clear HO148; clear HO207; clear BK138; clear HB; have HO142 := n0_; have HO145 := n1_; have HO148 := n2_; have HO207 := n3_; have HO210 := n4_; have BK138 := n5_; have HB := n6_; clear n0_ n1_ n2_ n3_ n4_ n5_ n6_; (try clear hb); (try clear hb2); (try clear hk); (try clear hi); (try clear ho0)))
        go_ret2
        exact ⟨_, er_, by (with_reducible repeat (first | apply Kd.R_alloc | apply Kd.R_drewN | apply Kd.R_drew)); exact Kd.R_mono HO210.out (fun _ hk => trivial), bl1_ HB GE138⟩
 ·rw [if_neg c3] at H
  have c3b0 : (t139 == 0) = false := beq_eq_false_iff_ne.mpr c3
  have c3b1 : (t139 != 0) = true := bne_iff_ne.mpr c3
  simp only [Option.some.injEq, Prod.mk.injEq] at H
  obtain ⟨rfl, rfl⟩ := H
  go_enter Try.func30, Try.ntmps30
  go_wp2_with (first | ((with_reducible refine gate_dst (N := 1) rfl ?_); refine bx_ (N := 1) (cs := #[.int .i64 a0_0, .int .i64 a0_1, .int .i64 a0_2, .slice A0_3 l0_3.length c0_3, .int .i64 a0_4, .int .i64 a0_5, .int .i64 a0_6]) (t := 24) ?_; intro gb138 hg w167 hbox hb; have n0_ := Aside0.mk (below_step (bl0_ HB) hb); have n1_ := Aside0.mk (hbox); have n2_ := Aside0.mk ((by rw [hg]; exact (below_size (bl0_ HB)) : w.heap.size ≤ gb138)); have n3_ := Aside0.mk ((by rw [hg]; exact (below_size (bl0_ HB)) : w.heap.size ≤ gb138)); clear HB; have HB := n0_; have BK138 := n1_; have GW138 := n2_; have GE138 := n3_; clear n0_ n1_ n2_ n3_; clear hb hbox hg; refine cz7_ BK138.out ?_; intro hcz168_0 hcz168_1 hcz168_2 hcz168_3 hcz168_4 hcz168_5 hcz168_6 hfz168_0 hfz168_1 hfz168_2 hfz168_3 hfz168_4 hfz168_5 hfz168_6) | ((with_reducible refine gate_callee (f := 29) rfl ?_); refine goesL_ (some 7) rfl rfl Try.func29 (by kernel_rfl) rfl #[.agg #[.int .i64 a0_0, .int .i64 a0_1, .int .i64 a0_2, .slice A0_3 l0_3.length c0_3, .int .i64 a0_4, .int .i64 a0_5, .int .i64 a0_6]] rfl ar_ ?_; (with_reducible refine (pdu_Check.calls k a0_0 a0_1 a0_2 _ _ l0_3 a0_4 a0_5 a0_6 t139 _ ?side1 ?side2 A2.out).mono ?_); (case side1 => exact sc_ (Kd.C_below HR0_3.out HB.out)); (case side2 => exact HC0_3.out); rintro e w169 ⟨rfl, hb⟩; refine ⟨_, rfl, ?_⟩; have n0_ := Aside0.mk (blk_below (g := gb138) (bk_ BK138) hb); have n1_ := Aside0.mk (below_step (bl1_ HB GE138) hb); clear BK138; clear HB; have BK138 := n0_; have HB := n1_; clear n0_ n1_; (try clear hb); (try clear hb2); (try clear hk); (try clear hi)))
  go_ret2
  exact ⟨_, er_, by first | exact Kd.R_nil _ _ _ _ _ | exact Kd.N_nil _ _ _ _ _ | exact Kd.V_nil _ _ _ _ _ | exact Kd.Q_nil _ _ _ _ _ | exact Kd.S_nil _ _ _ _ _, bl1_ HB GE138⟩
end Go.Proofs.Ytocicifgglkaeaa.PQ
end

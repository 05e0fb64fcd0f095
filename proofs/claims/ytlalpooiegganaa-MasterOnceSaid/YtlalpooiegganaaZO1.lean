/- The words, contracts and walks that this claim leans on, put together by a program of this session (part 1). -/
import Derived.Test.YtlalpooiegganaaZO0
import Derived.Test.YtlalpooiegganaaProg
import Derived.Laws.StructEq
import Derived.MapKept
import Derived.Laws.CopyOwn
import Derived.Lib.BufferMore
section
namespace Go.Proofs.YtlalpooiegganaaW.PrintWords
open Go.RowKit
theorem bl0_ {b : Nat} {w0 W W' : World} (h : Aside0 (Below b w0 W)) (k : Below b w0 W → Below b w0 W' := by intro h_ ; repeat (first | (with_reducible first | exact h_ | apply below_alloc | apply pw_below_drewN | apply below_drew1) | exact h_)) : Below b w0 W' := k h.out 
theorem bl1_ {b : Nat} {w0 W W' : World} {p0 : Prop} (h : Aside0 (Below b w0 W)) (g0 : Aside0 p0) (k : Below b w0 W → p0 → Below b w0 W' := by intro h_ i0_; repeat (first | (with_reducible first | exact h_ | apply below_alloc | apply pw_below_drewN | apply below_drew1 | refine below_set ?_ i0_) | exact h_)) : Below b w0 W' := k h.out g0.out
theorem bl2_ {b : Nat} {w0 W W' : World} {p0 : Prop} {p1 : Prop} (h : Aside0 (Below b w0 W)) (g0 : Aside0 p0) (g1 : Aside0 p1) (k : Below b w0 W → p0 → p1 → Below b w0 W' := by intro h_ i0_ i1_; repeat (first | (with_reducible first | exact h_ | apply below_alloc | apply pw_below_drewN | apply below_drew1 | refine below_set ?_ i0_ | refine below_set ?_ i1_) | exact h_)) : Below b w0 W' := k h.out g0.out g1.out
theorem bl3_ {b : Nat} {w0 W W' : World} {p0 : Prop} {p1 : Prop} {p2 : Prop} (h : Aside0 (Below b w0 W)) (g0 : Aside0 p0) (g1 : Aside0 p1) (g2 : Aside0 p2) (k : Below b w0 W → p0 → p1 → p2 → Below b w0 W' := by intro h_ i0_ i1_ i2_; repeat (first | (with_reducible first | exact h_ | apply below_alloc | apply pw_below_drewN | apply below_drew1 | refine below_set ?_ i0_ | refine below_set ?_ i1_ | refine below_set ?_ i2_) | exact h_)) : Below b w0 W' := k h.out g0.out g1.out g2.out
theorem bl4_ {b : Nat} {w0 W W' : World} {p0 : Prop} {p1 : Prop} {p2 : Prop} {p3 : Prop} (h : Aside0 (Below b w0 W)) (g0 : Aside0 p0) (g1 : Aside0 p1) (g2 : Aside0 p2) (g3 : Aside0 p3) (k : Below b w0 W → p0 → p1 → p2 → p3 → Below b w0 W' := by intro h_ i0_ i1_ i2_ i3_; repeat (first | (with_reducible first | exact h_ | apply below_alloc | apply pw_below_drewN | apply below_drew1 | refine below_set ?_ i0_ | refine below_set ?_ i1_ | refine below_set ?_ i2_ | refine below_set ?_ i3_) | exact h_)) : Below b w0 W' := k h.out g0.out g1.out g2.out g3.out
theorem bl5_ {b : Nat} {w0 W W' : World} {p0 : Prop} {p1 : Prop} {p2 : Prop} {p3 : Prop} {p4 : Prop} (h : Aside0 (Below b w0 W)) (g0 : Aside0 p0) (g1 : Aside0 p1) (g2 : Aside0 p2) (g3 : Aside0 p3) (g4 : Aside0 p4) (k : Below b w0 W → p0 → p1 → p2 → p3 → p4 → Below b w0 W' := by intro h_ i0_ i1_ i2_ i3_ i4_; repeat (first | (with_reducible first | exact h_ | apply below_alloc | apply pw_below_drewN | apply below_drew1 | refine below_set ?_ i0_ | refine below_set ?_ i1_ | refine below_set ?_ i2_ | refine below_set ?_ i3_ | refine below_set ?_ i4_) | exact h_)) : Below b w0 W' := k h.out g0.out g1.out g2.out g3.out g4.out
theorem bk_ {p q : Prop} (h : Aside0 p) (k : p → q := by intro h_; (with_reducible repeat (first | refine blk_drewN ?_ _ | refine blk_drew ?_ | refine blk_alloc ?_ _)); exact h_) : q := k h.out
theorem kr_ {p q : Prop} (h : Aside0 p) (k : p → q := by intro h_; (with_reducible repeat (first | apply Kd.R_alloc | apply Kd.R_drewN | apply Kd.R_drew)); exact h_) : q := k h.out
theorem ar_ {p : Prop} (k : p := by (try simp only [List.map_toArray, List.map_cons, List.map_nil]); first | done | rfl | (simp only [List.length_drop, List.length_take]; rfl)) : p := k
theorem cz1_ {p : Prop} {w : World} {g : Nat} {t : TypeId} {v0 : Value} (h : w.heap[g]? = some (.cells #[v0] t (0, 0))) (k : w.cell? ⟨g, 0, none⟩ = some v0 → w.frozen? ⟨g, 0, none⟩ = false → p) : p := k ((blk_cell h 0).trans rfl) (blk_frozen h 0)
theorem cz2_ {p : Prop} {w : World} {g : Nat} {t : TypeId} {v0 v1 : Value} (h : w.heap[g]? = some (.cells #[v0, v1] t (0, 0))) (k : w.cell? ⟨g, 0, none⟩ = some v0 → w.cell? ⟨g, 1, none⟩ = some v1 → w.frozen? ⟨g, 0, none⟩ = false → w.frozen? ⟨g, 1, none⟩ = false → p) : p := k ((blk_cell h 0).trans rfl) ((blk_cell h 1).trans rfl) (blk_frozen h 0) (blk_frozen h 1)
theorem cz3_ {p : Prop} {w : World} {g : Nat} {t : TypeId} {v0 v1 v2 : Value} (h : w.heap[g]? = some (.cells #[v0, v1, v2] t (0, 0))) (k : w.cell? ⟨g, 0, none⟩ = some v0 → w.cell? ⟨g, 1, none⟩ = some v1 → w.cell? ⟨g, 2, none⟩ = some v2 → w.frozen? ⟨g, 0, none⟩ = false → w.frozen? ⟨g, 1, none⟩ = false → w.frozen? ⟨g, 2, none⟩ = false → p) : p := k ((blk_cell h 0).trans rfl) ((blk_cell h 1).trans rfl) ((blk_cell h 2).trans rfl) (blk_frozen h 0) (blk_frozen h 1) (blk_frozen h 2)
theorem cz4_ {p : Prop} {w : World} {g : Nat} {t : TypeId} {v0 v1 v2 v3 : Value} (h : w.heap[g]? = some (.cells #[v0, v1, v2, v3] t (0, 0))) (k : w.cell? ⟨g, 0, none⟩ = some v0 → w.cell? ⟨g, 1, none⟩ = some v1 → w.cell? ⟨g, 2, none⟩ = some v2 → w.cell? ⟨g, 3, none⟩ = some v3 → w.frozen? ⟨g, 0, none⟩ = false → w.frozen? ⟨g, 1, none⟩ = false → w.frozen? ⟨g, 2, none⟩ = false → w.frozen? ⟨g, 3, none⟩ = false → p) : p := k ((blk_cell h 0).trans rfl) ((blk_cell h 1).trans rfl) ((blk_cell h 2).trans rfl) ((blk_cell h 3).trans rfl) (blk_frozen h 0) (blk_frozen h 1) (blk_frozen h 2) (blk_frozen h 3)
theorem cz5_ {p : Prop} {w : World} {g : Nat} {t : TypeId} {v0 v1 v2 v3 v4 : Value} (h : w.heap[g]? = some (.cells #[v0, v1, v2, v3, v4] t (0, 0))) (k : w.cell? ⟨g, 0, none⟩ = some v0 → w.cell? ⟨g, 1, none⟩ = some v1 → w.cell? ⟨g, 2, none⟩ = some v2 → w.cell? ⟨g, 3, none⟩ = some v3 → w.cell? ⟨g, 4, none⟩ = some v4 → w.frozen? ⟨g, 0, none⟩ = false → w.frozen? ⟨g, 1, none⟩ = false → w.frozen? ⟨g, 2, none⟩ = false → w.frozen? ⟨g, 3, none⟩ = false → w.frozen? ⟨g, 4, none⟩ = false → p) : p := k ((blk_cell h 0).trans rfl) ((blk_cell h 1).trans rfl) ((blk_cell h 2).trans rfl) ((blk_cell h 3).trans rfl) ((blk_cell h 4).trans rfl) (blk_frozen h 0) (blk_frozen h 1) (blk_frozen h 2) (blk_frozen h 3) (blk_frozen h 4)
theorem cz6_ {p : Prop} {w : World} {g : Nat} {t : TypeId} {v0 v1 v2 v3 v4 v5 : Value} (h : w.heap[g]? = some (.cells #[v0, v1, v2, v3, v4, v5] t (0, 0))) (k : w.cell? ⟨g, 0, none⟩ = some v0 → w.cell? ⟨g, 1, none⟩ = some v1 → w.cell? ⟨g, 2, none⟩ = some v2 → w.cell? ⟨g, 3, none⟩ = some v3 → w.cell? ⟨g, 4, none⟩ = some v4 → w.cell? ⟨g, 5, none⟩ = some v5 → w.frozen? ⟨g, 0, none⟩ = false → w.frozen? ⟨g, 1, none⟩ = false → w.frozen? ⟨g, 2, none⟩ = false → w.frozen? ⟨g, 3, none⟩ = false → w.frozen? ⟨g, 4, none⟩ = false → w.frozen? ⟨g, 5, none⟩ = false → p) : p := k ((blk_cell h 0).trans rfl) ((blk_cell h 1).trans rfl) ((blk_cell h 2).trans rfl) ((blk_cell h 3).trans rfl) ((blk_cell h 4).trans rfl) ((blk_cell h 5).trans rfl) (blk_frozen h 0) (blk_frozen h 1) (blk_frozen h 2) (blk_frozen h 3) (blk_frozen h 4) (blk_frozen h 5)
theorem cz7_ {p : Prop} {w : World} {g : Nat} {t : TypeId} {v0 v1 v2 v3 v4 v5 v6 : Value} (h : w.heap[g]? = some (.cells #[v0, v1, v2, v3, v4, v5, v6] t (0, 0))) (k : w.cell? ⟨g, 0, none⟩ = some v0 → w.cell? ⟨g, 1, none⟩ = some v1 → w.cell? ⟨g, 2, none⟩ = some v2 → w.cell? ⟨g, 3, none⟩ = some v3 → w.cell? ⟨g, 4, none⟩ = some v4 → w.cell? ⟨g, 5, none⟩ = some v5 → w.cell? ⟨g, 6, none⟩ = some v6 → w.frozen? ⟨g, 0, none⟩ = false → w.frozen? ⟨g, 1, none⟩ = false → w.frozen? ⟨g, 2, none⟩ = false → w.frozen? ⟨g, 3, none⟩ = false → w.frozen? ⟨g, 4, none⟩ = false → w.frozen? ⟨g, 5, none⟩ = false → w.frozen? ⟨g, 6, none⟩ = false → p) : p := k ((blk_cell h 0).trans rfl) ((blk_cell h 1).trans rfl) ((blk_cell h 2).trans rfl) ((blk_cell h 3).trans rfl) ((blk_cell h 4).trans rfl) ((blk_cell h 5).trans rfl) ((blk_cell h 6).trans rfl) (blk_frozen h 0) (blk_frozen h 1) (blk_frozen h 2) (blk_frozen h 3) (blk_frozen h 4) (blk_frozen h 5) (blk_frozen h 6)
theorem cz8_ {p : Prop} {w : World} {g : Nat} {t : TypeId} {v0 v1 v2 v3 v4 v5 v6 v7 : Value} (h : w.heap[g]? = some (.cells #[v0, v1, v2, v3, v4, v5, v6, v7] t (0, 0))) (k : w.cell? ⟨g, 0, none⟩ = some v0 → w.cell? ⟨g, 1, none⟩ = some v1 → w.cell? ⟨g, 2, none⟩ = some v2 → w.cell? ⟨g, 3, none⟩ = some v3 → w.cell? ⟨g, 4, none⟩ = some v4 → w.cell? ⟨g, 5, none⟩ = some v5 → w.cell? ⟨g, 6, none⟩ = some v6 → w.cell? ⟨g, 7, none⟩ = some v7 → w.frozen? ⟨g, 0, none⟩ = false → w.frozen? ⟨g, 1, none⟩ = false → w.frozen? ⟨g, 2, none⟩ = false → w.frozen? ⟨g, 3, none⟩ = false → w.frozen? ⟨g, 4, none⟩ = false → w.frozen? ⟨g, 5, none⟩ = false → w.frozen? ⟨g, 6, none⟩ = false → w.frozen? ⟨g, 7, none⟩ = false → p) : p := k ((blk_cell h 0).trans rfl) ((blk_cell h 1).trans rfl) ((blk_cell h 2).trans rfl) ((blk_cell h 3).trans rfl) ((blk_cell h 4).trans rfl) ((blk_cell h 5).trans rfl) ((blk_cell h 6).trans rfl) ((blk_cell h 7).trans rfl) (blk_frozen h 0) (blk_frozen h 1) (blk_frozen h 2) (blk_frozen h 3) (blk_frozen h 4) (blk_frozen h 5) (blk_frozen h 6) (blk_frozen h 7)
theorem bx_ {P : Program} {ops : Array Oper} {rest : List Oper} {o : Oper} {a : Act} {Q : Exit → Act → World → Prop} {W : World} {N : Tmp} {cs : Array Value} {t : TypeId} (h : ∀ g, g = W.heap.size → ∀ w1, w1.heap[g]? = some (.cells cs t (0, 0)) → Below W.heap.size W w1 → wpList P ops Q rest (a.put o.dst (.pointer (some ⟨g, 0, none⟩))) w1) (hgd : o.guard = none := by rfl) (hd : o.dst = some N := by rfl) (hrun : (execOp a.eval o).run P W = .ok (.value (.pointer (some ⟨W.heap.size, 0, none⟩))) (W.alloc (.cells cs t (0, 0))) := by first | (go_simp; done) | (go_simp; rfl)) : wpList P ops Q (o :: rest) a W := box_event hgd hd hrun h
theorem sc_ {p q : Prop} (h : p) (k : p → q := by intro h_; repeat (first | exact h_ | (with_reducible refine Kd.C_alloc ?_ _) | (with_reducible refine Kd.C_drewN ?_ _) | (with_reducible refine Kd.C_drew ?_))) : q := k h
theorem er_ {p : Prop} (k : p := by first | rfl | (simp [errW_none, errW_some] <;> rfl) | (simp [*, errW_none, errW_some] <;> rfl)) : p := k
end Go.Proofs.YtlalpooiegganaaW.PrintWords
end

section
namespace Go.Proofs.Ytlalpooiegganaa.PMasterWaits
open Go.RowKit Go.Proofs.YtlalpooiegganaaW.PrintWords Go.Proofs.YtlalpooiegganaaW.PrintLast Go.Proofs.YtlalpooiegganaaW.PrintMore
attribute [local go_sem] max2_int min2_int max_two min_two max_three min_three max_four min_four   
set_option linter.unusedVariables false
set_option linter.unusedSimpArgs false
def errW : Option Int → Value
 | none => .nilIface
 | some c => .iface 0 (.int .i64 c)
theorem errW_none : errW none = .nilIface := rfl
theorem errW_some (c : Int) : errW (some c) = .iface 0 (.int .i64 c) := rfl
theorem info3 : (Try.prog.info? 3).map (fun i => (i.zero, i.size, i.bytes)) = some (some (.int .i64 0), 1, 8) := by kernel_rfl
theorem info5 : (Try.prog.info? 5).map (fun i => (i.zero, i.size, i.bytes)) = some (some (.int .u8 0), 1, 1) := by kernel_rfl
structure S31 where
 f0 : Int
 f1 : Int
 f2 : Int
 f3 : (List Int)
 f4 : Int
 f5 : Int
 f6 : Int
def z31 : S31 := ⟨(0 : Int), (0 : Int), (0 : Int), ([] : List Int), (0 : Int), (0 : Int), (0 : Int)⟩
def k31 : Kd S31 := Kd.iso (Kd.pair (Kd.int .i64) (Kd.pair (Kd.int .i64) (Kd.pair (Kd.int .i64) (Kd.pair (Kd.slice 3 (Kd.int .i64)) (Kd.pair (Kd.int .i64) (Kd.pair (Kd.int .i64) (Kd.int .i64))))))) (fun x : S31 => (x.f0, x.f1, x.f2, x.f3, x.f4, x.f5, x.f6))
theorem k31_open {w : World} {x : S31} {cs : List Value} (h : k31.K w x cs) : ∃ A3 c3, cs = [.int .i64 x.f0, .int .i64 x.f1, .int .i64 x.f2, .slice A3 x.f3.length c3, .int .i64 x.f4, .int .i64 x.f5, .int .i64 x.f6] ∧ x.f3.length ≤ c3 ∧ (Kd.int .i64).C w A3 x.f3.length x.f3 := by
 obtain ⟨_, _, rfl, rfl, ⟨_, _, rfl, rfl, ⟨_, _, rfl, rfl, ⟨_, _, rfl, ⟨A3, c3, rfl, l3, g3⟩, ⟨_, _, rfl, rfl, ⟨_, _, rfl, rfl, rfl⟩⟩⟩⟩⟩⟩ := h
 exact ⟨A3, c3, rfl, l3, g3⟩
theorem k31_mk (w : World) (x : S31) {A3 : Option Addr} {c3 : Nat} (l3 : x.f3.length ≤ c3) (g3 : (Kd.int .i64).C w A3 x.f3.length x.f3) : k31.K w x [.int .i64 x.f0, .int .i64 x.f1, .int .i64 x.f2, .slice A3 x.f3.length c3, .int .i64 x.f4, .int .i64 x.f5, .int .i64 x.f6] := ⟨[.int .i64 x.f0], [.int .i64 x.f1, .int .i64 x.f2, .slice A3 x.f3.length c3, .int .i64 x.f4, .int .i64 x.f5, .int .i64 x.f6], rfl, rfl, ⟨[.int .i64 x.f1], [.int .i64 x.f2, .slice A3 x.f3.length c3, .int .i64 x.f4, .int .i64 x.f5, .int .i64 x.f6], rfl, rfl, ⟨[.int .i64 x.f2], [.slice A3 x.f3.length c3, .int .i64 x.f4, .int .i64 x.f5, .int .i64 x.f6], rfl, rfl, ⟨[.slice A3 x.f3.length c3], [.int .i64 x.f4, .int .i64 x.f5, .int .i64 x.f6], rfl, ⟨A3, c3, rfl, l3, g3⟩, ⟨[.int .i64 x.f4], [.int .i64 x.f5, .int .i64 x.f6], rfl, rfl, ⟨[.int .i64 x.f5], [.int .i64 x.f6], rfl, rfl, rfl⟩⟩⟩⟩⟩⟩
structure S39 where
 f0 : Int
 f1 : Int
 f2 : S31
end Go.Proofs.Ytlalpooiegganaa.PMasterWaits
end

section
namespace Go.Proofs.Ytlalpooiegganaa.Core
open Go.RowKit Go.Proofs.YtlalpooiegganaaW.PrintWords Go.Proofs.YtlalpooiegganaaW.PrintLast Go.Proofs.YtlalpooiegganaaW.PrintMore
set_option linter.unusedVariables false
set_option linter.unusedSimpArgs false
structure Ext (M : Nat → Prop) (w w' : World) : Prop where
 os : w'.os = w.os
 tape : w'.tape = w.tape
 output : w'.output = w.output
 size : w.heap.size ≤ w'.heap.size
 block : ∀ k, k < w.heap.size → ¬ M k → w'.heap[k]? = w.heap[k]?
structure Ever (M : Nat → Prop) (w : World) (P : World → Prop) : Prop where
 at_ : ∀ w', Ext M w w' → P w'
section
variable {M M' : Nat → Prop} {w w1 w2 W : World} {P Q : World → Prop}
theorem Ext.refl (M : Nat → Prop) (w : World) : Ext M w w := ⟨rfl, rfl, rfl, Nat.le_refl _, fun _ _ _ => rfl⟩
theorem Ext.trans (h : Ext M w w1) (k : Ext M w1 w2) : Ext M w w2 :=
 ⟨k.os.trans h.os, k.tape.trans h.tape, k.output.trans h.output, Nat.le_trans h.size k.size, fun i hi hm => (k.block i (Nat.lt_of_lt_of_le hi h.size) hm).trans (h.block i hi hm)⟩
theorem Ext.mono (h : Ext M w w1) (hm : ∀ k, k < w.heap.size → M k → M' k) : Ext M' w w1 := ⟨h.os, h.tape, h.output, h.size, fun i hi hn => h.block i hi (fun a => hn (hm i hi a))⟩
theorem Ext.of_below (h : Below w.heap.size w w1) : Ext M w w1 := ⟨h.os, h.tape, h.output, h.size, fun i hi _ => h.block i hi⟩
theorem Ext.then_below (h : Ext M w w1) (k : Below w1.heap.size w1 w2) : Ext M w w2 := h.trans (.of_below k)
theorem Ext.alloc (h : Ext M w W) (o : Obj) : Ext M w (W.alloc o) := h.then_below (below_alloc (Below.refl _ _) o)
theorem Ext.drewN (h : Ext M w W) (n : Nat) : Ext M w (W.drewN n) := h.then_below (pw_below_drewN (Below.refl _ _) n)
theorem Ext.drew (h : Ext M w W) : Ext M w W.drew := h.then_below (below_drew1 (Below.refl _ _))
theorem Ext.set (h : Ext M w W) {g j : Nat} (hg : M g) (v : Value) : Ext M w (W.setCell ⟨g, j, none⟩ v) :=
 h.trans ⟨rfl, rfl, rfl, by simp [World.setCell], fun k _ hk => Below.heap_setCell _ _ _ _ (fun e => hk (by simpa using e ▸ hg))⟩
theorem Ext.new (h : Ext M w W) {g j : Nat} (hg : w.heap.size ≤ g) (v : Value) : Ext M w (W.setCell ⟨g, j, none⟩ v) :=
 ⟨h.os, h.tape, h.output, by have := h.size; simpa [World.setCell] using this, fun k hk hm => (Below.heap_setCell _ _ _ _ (by show k ≠ g; omega)).trans (h.block k hk hm)⟩
theorem Ext.grown (h : Ext M w W) {row : Option Nat} (hg : W.grownBy w1 row) (hr : ∀ k, row = some k → M k ∨ w.heap.size ≤ k) : Ext M w w1 :=
 ⟨hg.os.trans h.os, hg.tape.trans h.tape, hg.output.trans h.output, Nat.le_trans h.size hg.size, fun k hk hm => (hg.block k (Nat.lt_of_lt_of_le hk h.size) (fun e => by rcases hr k e.symm with a | a; exact hm a; omega)).trans (h.block k hk hm)⟩
theorem Ext.below (h : Ext M w W) (hM : ∀ k, M k → w.heap.size ≤ k) : Below w.heap.size w W := ⟨h.os, h.tape, h.output, h.size, fun k hk => h.block k hk (fun a => by have := hM k a; omega)⟩
theorem Ext.grow (h : Ext M w W) (k : Ext M' W w2) (hM : ∀ k, M' k → M k ∨ w.heap.size ≤ k) : Ext M w w2 :=
 ⟨k.os.trans h.os, k.tape.trans h.tape, k.output.trans h.output, Nat.le_trans h.size k.size, fun i hi hm => (k.block i (Nat.lt_of_lt_of_le hi h.size) (fun a => by rcases hM i a with b | b; exact hm b; omega)).trans (h.block i hi hm)⟩
theorem Ext.setg {g j : Nat} (h : Ext (fun k => k = g) w W) (v : Value) : Ext (fun k => k = g) w (W.setCell ⟨g, j, none⟩ v) := Ext.set h (M := fun k => k = g) rfl v
theorem Ever.now (h : Ever M w P) : P w := h.at_ w (Ext.refl _ _)
theorem Ever.step (h : Ever M w P) (k : Ext M w w1) : Ever M w1 P := ⟨fun w2 h2 => h.at_ w2 (k.trans h2)⟩
theorem Ever.grow (h : Ever M w P) (k : Ext M w w1) (hM : ∀ k, M' k → M k ∨ w.heap.size ≤ k) : Ever M' w1 P := ⟨fun w2 h2 => h.at_ w2 (k.grow h2 hM)⟩
theorem Ever.imp (h : Ever M w P) (k : ∀ w, P w → Q w) : Ever M w Q := ⟨fun w1 h1 => k _ (h.at_ w1 h1)⟩
theorem Ever.and (h : Ever M w P) (k : Ever M w Q) : Ever M w (fun w => P w ∧ Q w) := ⟨fun w1 h1 => ⟨h.at_ w1 h1, k.at_ w1 h1⟩⟩
theorem Ever.old (h : P w) (hb : ∀ w1, Below w.heap.size w w1 → P w1) (hM : ∀ k, M k → w.heap.size ≤ k) : Ever M w P := ⟨fun w1 h1 => hb w1 (h1.below hM)⟩
theorem Ever.C {α : Type} {d : Kd α} {A : Option Addr} {n : Nat} {xs : List α} (h : d.C w A n xs) (hM : ∀ k, M k → w.heap.size ≤ k) : Ever M w (fun W => d.C W A n xs) := .old h (fun _ hb => Kd.C_below h hb) hM
theorem Ever.R {α : Type} {d : Kd α} {e base : Nat} {ok : Nat → Prop} {A : Option Addr} {n c : Nat} {xs : List α} (h : d.R e w base ok (.slice A n c) xs) (hM : ∀ k, M k → k < base) : Ever M w (fun W => d.C W A xs.length xs) := by
 refine ⟨fun w1 h1 => ?_⟩
 have h2 : d.R e w1 base (fun k => ok k ∧ base ≤ k ∧ k < w.heap.size ∧ ∃ q, q ∈ e :: d.E ∧ ∃ cells, w.heap[k]? = some (.cells cells q (0, 0))) (.slice A n c) xs :=
  Kd.R_move (Kd.R_bound h) (fun k hk => h1.block k hk.2.2.1 (fun a => by have := hM k a; have := hk.2.1; omega))
 exact (Kd.R_reads' h2).2.2
theorem Ever.blk {g : Nat} {o : Obj} (h : w.heap[g]? = some o) (hM : ¬ M g) : Ever M w (fun W => W.heap[g]? = some o) := ⟨fun w1 h1 => (h1.block g (blk_lt h) hM).trans h⟩
theorem Ever.nil {α : Type} (d : Kd α) : Ever M w (fun W => d.C W none ([] : List α).length []) := ⟨fun w1 _ => Kd.C_nil d w1⟩
theorem Ever.triv {p : Prop} (h : p) : Ever M w (fun _ => p) := ⟨fun _ _ => h⟩
end
section
variable {α : Type} {enc : α → Value} {h1 : ∀ x, (enc x).oneCell' = true} {M : Nat → Prop} {w : World} {A : Option Addr}
theorem Ever.take {d : Kd α} {xs : List α} (h : Ever M w (fun W => d.C W A xs.length xs)) {m : Nat} (hm : m ≤ xs.length) : Ever M w (fun W => d.C W A (xs.take m).length (xs.take m)) := h.imp (fun _ k => Kd.C_take k hm)
end
def Mv (M : Nat → Prop) (v : Value) (k : Nat) : Prop := M k ∨ some k = v.ownBlock
def OwnE {α : Type} (d : Kd α) (M : Nat → Prop) (e : TypeId) (base : Nat) (W : World) (v : Value) (xs : List α) : Prop :=
 ∃ inner, W.ownsRow base e d.sz v xs.length inner ∧ Reps (fun x cs => Ever (Mv M v) W (fun W => d.K W x cs)) d.sz xs inner
section
variable {α : Type} {d : Kd α} {M M' : Nat → Prop} {e : TypeId} {base : Nat} {W w1 : World} {v v1 : Value} {xs : List α} {P : World → Prop}
theorem OwnE.nil (d : Kd α) (M : Nat → Prop) (e : TypeId) (base : Nat) (W : World) : OwnE d M e base W (.slice none 0 0) [] := ⟨[], own_nil W base e d.sz, Reps.none _ _⟩
theorem OwnE.slice (h : OwnE d M e base W v xs) : ∃ A c, v = .slice A xs.length c := by obtain ⟨i, h, _⟩ := h; exact own_slice h
theorem OwnE.step (h : OwnE d M e base W v xs) (k : Ext (Mv M v) W w1) (hv : ∀ k, v.ownBlock = some k → w1.heap[k]? = W.heap[k]?) : OwnE d M e base w1 v xs := by
 obtain ⟨i, h1, h2⟩ := h
 exact ⟨i, own_move h1 hv, h2.imp_ (fun _ _ h => h.step k)⟩
theorem OwnE.below (h : OwnE d M e base W v xs) (k : Below W.heap.size W w1) : OwnE d M e base w1 v xs := by
 obtain ⟨i, h1, h2⟩ := h
 exact ⟨i, pw_own_below h1 k, h2.imp_ (fun _ _ h => h.step (.of_below k))⟩
theorem OwnE.ext (h : OwnE d M e base W v xs) (k : Ext M W w1) (hM : ∀ k, v.ownBlock = some k → ¬ M k) : OwnE d M e base w1 v xs := by
 have h0 := h
 obtain ⟨i, h1, h2⟩ := h0
 exact h.step (k.mono (fun _ _ a => .inl a)) (fun b hb => k.block b (own_lt h1 b hb) (hM b hb))
theorem OwnE.base_le (h : OwnE d M e base W v xs) (k : Nat) (hk : v.ownBlock = some k) : base ≤ k := by obtain ⟨i, h1, _⟩ := h; exact own_base h1 k hk
theorem OwnE.lt (h : OwnE d M e base W v xs) (k : Nat) (hk : v.ownBlock = some k) : k < W.heap.size := by obtain ⟨i, h1, _⟩ := h; exact own_lt h1 k hk
theorem OwnE.view (h : OwnE d M e base W v xs) (hM : ∀ k, v.ownBlock = some k → ¬ M k) : ∃ A c, v = .slice A xs.length c ∧ xs.length ≤ c ∧ Ever M W (fun W => d.C W A xs.length xs) := by
 obtain ⟨i, h1, h2⟩ := h
 obtain ⟨A, c, rfl⟩ := own_slice h1
 refine ⟨A, c, rfl, own_cap h1, ⟨fun w1 k => ?_⟩⟩
 have h3 : w1.ownsRow base e d.sz (.slice A xs.length c) xs.length i := own_move h1 (fun b hb => k.block b (own_lt h1 b hb) (hM b hb))
 have h4 : Reps (d.K w1) d.sz xs i := h2.imp_ (fun _ _ h => h.at_ _ (k.mono (fun _ _ a => .inl a)))
 obtain ⟨A', c', e', h5⟩ := own_reads_row h3 h4 rfl
 cases e'
 exact h5
theorem Mv_grow {W w1 : World} (hat : v1.ownBlock = v.ownBlock ∨ ∃ b, v1.ownBlock = some b ∧ W.heap.size ≤ b) (k : Nat) (h : Mv M v1 k) : Mv M v k ∨ W.heap.size ≤ k := by
 rcases h with h | h
 ·exact .inl (.inl h)
 ·rcases hat with a | ⟨b, a, hb⟩
  ·exact .inl (.inr (h.trans a))
  ·rw [a] at h; injection h with h; exact .inr (by omega)
theorem Ext.of_grown (h : W.grownBy w1 v.ownBlock) : Ext (Mv M v) W w1 := ⟨h.os, h.tape, h.output, h.size, fun k hk hm => h.block k hk (fun e => hm (.inr e))⟩
end
section
variable {P : Program} {ops : Array Oper} {rest : List Oper} {o : Oper} {a : Act} {Q : Exit → Act → World → Prop} {α : Type}
theorem ev_append (d : Kd α) {M : Nat → Prop} {w0 W : World} (base : Nat) (hgd : o.guard = none) (s x : Operand) (t e : TypeId) (z : Value) (bytes : Nat)
 (ho : o.op = .call { callee := .builtin .append, args := #[s, x], argTypes := #[t, t] })
 (ht : P.underlying t = some (.slice e)) (hinfo : (P.info? e).map (fun i => (i.zero, i.size, i.bytes)) = some (some z, d.sz, bytes)) (hz : z.cells.size = d.sz) (hs0 : 0 < d.sz) (hb0 : 0 < bytes)
 (v : Value) (xs : List α) (p : α) (ys : List Value) (hs : a.eval s = v) (hx : a.eval x = .slice (some ⟨W.heap.size, 0, none⟩) 1 1)
 (HO : OwnE d M e base W v xs) (hp : Ever (Mv M v) W (fun W => d.K W p ys)) (HB : Below base w0 W) (hbase : base ≤ W.heap.size) (hl : (xs.length + 1) * bytes ≤ 140737488355328)
 (h : ∀ v1 w1, OwnE d M e base w1 v1 (xs ++ [p]) → Below base w0 w1 → W.grownBy w1 v.ownBlock → (v1.ownBlock = v.ownBlock ∨ ∃ b, v1.ownBlock = some b ∧ W.heap.size ≤ b) → wpList P ops Q rest (a.put o.dst v1) w1) :
 wpList P ops Q (o :: rest) a (W.alloc (.cells ys.toArray e)) := by
 obtain ⟨inner, hown, hr⟩ := HO
 refine print_append_cells base hgd s x t e z d.sz bytes ho ht hinfo hz hs0 hb0 v xs.length inner ys hs hx (d.K_len hp.now) (d.K_one hp.now) hown HB hbase hl (fun v1 w1 h1 h2 h3 h4 => ?_)
 have hE : Ext (Mv M v) W w1 := Ext.of_grown h3
 refine h v1 w1 ⟨inner ++ ys, by rw [List.length_append, List.length_singleton]; exact h1, ?_⟩ h2 h3 h4
 exact (hr.imp_ (fun _ _ k => k.grow hE (Mv_grow (w1 := w1) h4))).snoc (hp.grow hE (Mv_grow (w1 := w1) h4)) (d.K_len hp.now)
theorem ev_append_rows (d : Kd α) {M : Nat → Prop} {w0 W : World} (base : Nat) (hgd : o.guard = none) (s x : Operand) (t e : TypeId) (z : Value) (bytes : Nat)
 (ho : o.op = .call { callee := .builtin .append, args := #[s, x], argTypes := #[t, t] })
 (ht : P.underlying t = some (.slice e)) (hinfo : (P.info? e).map (fun i => (i.zero, i.size, i.bytes)) = some (some z, d.sz, bytes)) (hz : z.cells.size = d.sz) (hs0 : 0 < d.sz) (hb0 : 0 < bytes)
 (v : Value) (xs ys : List α) (A : Option Addr) (m c : Nat) (hs : a.eval s = v) (hx : a.eval x = .slice A m c)
 (HO : OwnE d M e base W v xs) (HR : ReadsRow (fun x cs => cs.length = d.sz ∧ (∀ u ∈ cs, u.oneCell' = true) ∧ Ever (Mv M v) W (fun W => d.K W x cs)) d.sz W A m ys)
 (HB : Below base w0 W) (hbase : base ≤ W.heap.size) (hl : (xs.length + m) * bytes ≤ 140737488355328)
 (h : ∀ v1 w1, OwnE d M e base w1 v1 (xs ++ ys) → Below base w0 w1 → W.grownBy w1 v.ownBlock → (v1.ownBlock = v.ownBlock ∨ ∃ b, v1.ownBlock = some b ∧ W.heap.size ≤ b) → wpList P ops Q rest (a.put o.dst v1) w1) :
 wpList P ops Q (o :: rest) a W := by
 obtain ⟨i0, hi, hzz⟩ := Option.map_eq_some_iff.1 hinfo
 simp only [Prod.mk.injEq] at hzz
 obtain ⟨hz0, hz1, hz2⟩ := hzz
 have hm : ys.length = m := HR.1
 have hlen : xs.length + m ≤ 140737488355328 := Nat.le_trans (Nat.le_mul_of_pos_right _ hb0) hl
 obtain ⟨inner, hown, hr⟩ := HO
 rcases A with _ | ad
 ·have h0 : m = 0 := by
   rcases Nat.eq_zero_or_pos m with h0 | h0
   ·exact h0
   ·obtain ⟨ad, h, _⟩ := HR.2.2 h0
    cases h
  subst h0
  obtain rfl : ys = [] := List.eq_nil_of_length_eq_zero hm
  have hrun : (Builtin.append_ #[t, t] o.type #[v, .slice none 0 c]).run P W = .ok v W := by
   rcases hown.2 with ⟨rfl, hn⟩ | ⟨g, cap, cur, rfl, _, _, hnc, _⟩
   ·simp [Builtin.append_, run_underlying ht, sizeOf, typeInfo, hi, Builtin.lenOf, Builtin.firstCells]
   ·simp [Builtin.append_, run_underlying ht, sizeOf, typeInfo, hi, Builtin.lenOf, Builtin.firstCells, hnc, storeCells]
  refine wpList_plain hgd fun K hK => ?_
  unfold Oper.wp execOp
  simp only [ho, resolve, invoke, builtin, Sem.run_bind, Sem.run_pure, Result.andThen_ok, List.map_toArray, List.map_cons, List.map_nil, hs, hx, hrun]
  exact hK _ _ (h v W (by rw [List.append_nil]; exact ⟨inner, hown, hr⟩) HB (World.grownBy.refl W _) (.inl rfl))
 ·obtain ⟨news, hnr, hnc⟩ := ReadsRow.inner_ HR
  have hone : ∀ u ∈ news, u.oneCell' = true := by
   intro u hu
   obtain ⟨q, hq, rfl⟩ := List.mem_iff_getElem.1 hu
   have hql : q / d.sz < ys.length := by
    rw [Nat.div_lt_iff_lt_mul hs0]
    rw [← hnr.1]
    exact hq
   have hc := hnr.2 (q / d.sz) _ (List.getElem?_eq_getElem hql)
   refine hc.2.1 _ ?_
   rw [List.mem_iff_getElem?]
   refine ⟨q % d.sz, ?_⟩
   rw [List.getElem?_take, if_pos (Nat.mod_lt _ hs0), List.getElem?_drop, Nat.mul_comm, Nat.div_add_mod, List.getElem?_eq_getElem hq]
  refine wpList_append_own_at W hgd s x t ho base e i0 z d.sz bytes ht hi hz0 hz1 hz2 hz hs0 v xs.length inner hs hown ad m c news hx (by rw [hnr.1, hm]) hnc hone (by simp only [maxLen]; omega) hl hbase (fun v1 w1 h1 h3 _ h4 => ?_)
  have h4' : v1.ownBlock = v.ownBlock ∨ ∃ b, v1.ownBlock = some b ∧ W.heap.size ≤ b := by
   rcases h4 with a | a
   ·exact .inl a
   ·exact .inr ⟨_, a, Nat.le_refl _⟩
  have hE : Ext (Mv M v) W w1 := Ext.of_grown h3
  refine h v1 w1 ⟨inner ++ news, by rw [List.length_append, hm]; exact h1, ?_⟩ (HB.grown h3 hbase (own_base hown)) h3 h4'
  exact Kd.reps_append (hr.imp_ (fun _ _ k => k.grow hE (Mv_grow (w1 := w1) h4'))) (hnr.imp_ (fun _ _ k => k.2.2.grow hE (Mv_grow (w1 := w1) h4')))
end
def RowE {α : Type} (d : Kd α) (M : Nat → Prop) (W : World) (A : Option Addr) (n : Nat) (xs : List α) : Prop :=
 xs.length = n ∧ n ≤ 9223372036854775807 ∧ (0 < n → ∃ ad inner, A = some ad ∧ Reps (fun x cs => (cs.length = d.sz ∧ ∀ u ∈ cs, u.oneCell' = true) ∧ Ever M W (fun W => d.K W x cs)) d.sz xs inner ∧ Ever M W (fun W => ∀ i u, inner[i]? = some u → W.cell? (ad.add i) = some u))
section
variable {α : Type} {d : Kd α} {M M' : Nat → Prop} {W w1 : World} {A : Option Addr} {n : Nat} {xs : List α}
theorem RowE.elems (h : RowE d M W A n xs) : ReadsRow (fun x cs => cs.length = d.sz ∧ (∀ u ∈ cs, u.oneCell' = true) ∧ Ever M W (fun W => d.K W x cs)) d.sz W A n xs := by
 refine ⟨h.1, h.2.1, fun hn => ?_⟩
 obtain ⟨ad, inner, rfl, h1, h2⟩ := h.2.2 hn
 refine ⟨ad, rfl, fun j p hj => ⟨(inner.drop (j * d.sz)).take d.sz, (h1.2 j p hj).1.1, ⟨(h1.2 j p hj).1.1, (h1.2 j p hj).1.2, (h1.2 j p hj).2⟩, fun i u hu => ?_⟩⟩
 ·refine h2.now _ u ?_
  rw [List.getElem?_take] at hu
  split at hu
  ·rw [List.getElem?_drop] at hu
   exact hu
  ·cases hu
theorem RowE.ever (h : RowE d M W A n xs) : Ever M W (fun W => d.C W A n xs) := by
 refine ⟨fun w1 k => ⟨h.1, h.2.1, fun hn => ?_⟩⟩
 obtain ⟨ad, inner, rfl, h1, h2⟩ := h.2.2 hn
 refine ⟨ad, rfl, fun j p hj => ⟨(inner.drop (j * d.sz)).take d.sz, (h1.2 j p hj).1.1, (h1.2 j p hj).2.at_ _ k, fun i u hu => ?_⟩⟩
 refine h2.at_ _ k _ u ?_
 rw [List.getElem?_take] at hu
 split at hu
 ·rw [List.getElem?_drop] at hu
  exact hu
 ·cases hu
theorem RowE.grow (h : RowE d M W A n xs) (k : Ext M W w1) (hM : ∀ k, M' k → M k ∨ W.heap.size ≤ k) : RowE d M' w1 A n xs := by
 refine ⟨h.1, h.2.1, fun hn => ?_⟩
 obtain ⟨ad, inner, rfl, h1, h2⟩ := h.2.2 hn
 exact ⟨ad, inner, rfl, h1.imp_ (fun _ _ a => ⟨a.1, a.2.grow k hM⟩), h2.grow k hM⟩
theorem RowE.step (h : RowE d M W A n xs) (k : Ext M W w1) : RowE d M w1 A n xs := h.grow k (fun _ a => .inl a)
theorem RowE.nil : RowE d M W none ([] : List α).length [] := ⟨rfl, by simp, fun h => absurd h (Nat.lt_irrefl 0)⟩
theorem RowE.old (h : d.C W A n xs) (hM : ∀ k, M k → W.heap.size ≤ k) : RowE d M W A n xs := by
 refine ⟨h.1, h.2.1, fun hn => ?_⟩
 obtain ⟨ad, rfl, hc⟩ := h.2.2 hn
 obtain ⟨inner, hr, hcell⟩ := ReadsRow.inner_ h
 refine ⟨ad, inner, rfl, ?_, ?_⟩
 ·refine hr.imp_ (fun x cs hk => ⟨⟨d.K_len hk, d.K_one hk⟩, Ever.old hk (fun _ hb => d.K_below hb hk) hM⟩)
 ·exact Ever.old hcell (fun _ hb i u hu => pw_cell_below hb (hcell i u hu)) hM
theorem OwnE.row {e : TypeId} {base : Nat} {v : Value} (h : OwnE d M e base W v xs) (hM : ∀ k, v.ownBlock = some k → ¬ M k) : ∃ A c, v = .slice A xs.length c ∧ xs.length ≤ c ∧ RowE d M W A xs.length xs := by
 obtain ⟨i, h1, h2⟩ := h
 obtain ⟨A, c, rfl⟩ := own_slice h1
 have hm := (own_reads_row h1 (h2.imp_ (R' := fun _ _ => True) (fun _ _ _ => trivial)) rfl)
 obtain ⟨A', c', e', hmx⟩ := hm
 cases e'
 refine ⟨A, c, rfl, own_cap h1, rfl, hmx.2.1, fun hn => ?_⟩
 obtain ⟨g, cap, e', _, _⟩ := h1.form hn
 cases e'
 refine ⟨_, i, rfl, h2.imp_ (fun _ _ a => ⟨⟨d.K_len a.now, d.K_one a.now⟩, a.grow (Ext.refl _ _) (fun _ b => .inl (.inl b))⟩), ⟨fun w1 k j u hu => ?_⟩⟩
 exact (own_move h1 (fun b hb => k.block b (own_lt h1 b hb) (hM b hb))).cells rfl j u hu
end
def IsRow {α : Type} (d : Kd α) (M : Nat → Prop) (W : World) (v : Value) (xs : List α) : Prop := ∃ A c, v = .slice A xs.length c ∧ xs.length ≤ c ∧ RowE d M W A xs.length xs
theorem IsRow.grow {α : Type} {d : Kd α} {M M' : Nat → Prop} {W w1 : World} {v : Value} {xs : List α} (h : IsRow d M W v xs) (k : Ext M W w1) (hM : ∀ k, M' k → M k ∨ W.heap.size ≤ k) : IsRow d M' w1 v xs := by
 obtain ⟨A, c, e, hc, h⟩ := h
 exact ⟨A, c, e, hc, h.grow k hM⟩
theorem IsRow.step {α : Type} {d : Kd α} {M : Nat → Prop} {W w1 : World} {v : Value} {xs : List α} (h : IsRow d M W v xs) (k : Ext M W w1) : IsRow d M w1 v xs := h.grow k (fun _ a => .inl a)
theorem new_blk {W : World} {o : Obj} {g : Nat} (hg : g = W.heap.size) : (W.alloc o).heap[g]? = some o := by subst hg; exact heap_alloc_new W o
end Go.Proofs.Ytlalpooiegganaa.Core
end

section
set_option linter.unusedVariables false
set_option linter.unusedSimpArgs false
namespace Go.Proofs.Ytlalpooiegganaa.Wk
open Go.RowKit Go.Proofs.YtlalpooiegganaaW.PrintWords Go.Proofs.YtlalpooiegganaaW.PrintLast Go.Proofs.YtlalpooiegganaaW.PrintMore Go.Proofs.Ytlalpooiegganaa.Core
end Go.Proofs.Ytlalpooiegganaa.Wk
namespace Go.Proofs.Ytlalpooiegganaa.Core
open Go.RowKit Go.Proofs.YtlalpooiegganaaW.PrintWords Go.Proofs.YtlalpooiegganaaW.PrintLast Go.Proofs.YtlalpooiegganaaW.PrintMore
section
variable {M M' F : Nat → Prop} {w w1 w2 W W' : World} {P Q : World → Prop} {g : Nat}
theorem Ext.blk {o : Obj} (h : Ext F W W') (hb : W.heap[g]? = some o) (hg : ¬ F g) : W'.heap[g]? = some o := (h.block g (blk_lt hb) hg).trans hb
theorem Ext.sub (h : Ext F W W') (hs : ∀ k, F k → M k) : Ext M W W' := h.mono (fun k _ e => hs k e)
theorem Ext.step (h : Ext M w W) (k : Ext F W W') (hF : ∀ k, F k → M k ∨ w.heap.size ≤ k) : Ext M w W' := h.grow k hF
theorem Ext.stepB (h : Ext M w W) (k : Below W.heap.size W W') : Ext M w W' := h.then_below k
theorem Ext.none_ (h : Below W.heap.size W W') : Ext (fun _ => False) W W' := Ext.of_below h
theorem ne_born {h g n : Nat} (hl : h < n) (hg : g = n) : h ≠ g := by omega
theorem fnew {g : Nat} (hg : g = W.heap.size) (h : w.heap.size ≤ W.heap.size) : ∀ k, k = g → M k ∨ w.heap.size ≤ k := fun k e => .inr (by omega)
def Ms (gs : List Nat) (k : Nat) : Prop := k ∈ gs
theorem Ms.new {r : Nat} {gs : List Nat} {n : Nat} (hr : n ≤ r) : ∀ k, Ms (r :: gs) k → Ms gs k ∨ n ≤ k := fun k h => by
 rcases List.mem_cons.1 h with e | h
 ·exact .inr (by omega)
 ·exact .inl h
theorem Ms.old {r : Nat} {gs : List Nat} : ∀ k, Ms gs k → Ms (r :: gs) k := fun _ h => List.mem_cons_of_mem _ h
theorem Ms.one {g : Nat} {gs : List Nat} (h : g ∈ gs) : ∀ k, k = g → Ms gs k := fun k e => by rw [e]; exact h
theorem Ms.lt (gs : List Nat) {n n' : Nat} (h : ∀ k, Ms gs k → k < n) (hn : n ≤ n') : ∀ k, Ms gs k → k < n' := fun k hk => Nat.lt_of_lt_of_le (h k hk) hn
theorem rowset {g i : Nat} {v : Int} {k : IntKind} {xs : List Int} {e : TypeId} (hw : W' = W.setCell ⟨g, i, none⟩ (.int k v)) (hb : W.heap[g]? = some (.cells (xs.map (Value.int k)).toArray e (0, 0))) :
 W'.heap[g]? = some (.cells ((xs.set i v).map (Value.int k)).toArray e (0, 0)) ∧ Ext (fun k => k = g) W W' := by
 subst hw
 refine ⟨blk_put hb i _ ?_, (Ext.refl _ _).setg _⟩
 rw [List.map_set, List.setIfInBounds_toArray]
theorem row_cell {g i : Nat} {k : IntKind} {xs : List Int} {e : TypeId} (hb : W.heap[g]? = some (.cells (xs.map (Value.int k)).toArray e (0, 0))) (hi : i < xs.length) : W.cell? ⟨g, i, none⟩ = some (.int k (xs.getD i 0)) := by
 rw [blk_cell hb i]
 simp only [List.getElem?_toArray, List.getElem?_map, List.getD_eq_getElem?_getD, List.getElem?_eq_getElem hi, Option.map_some, Option.getD_some]
theorem put1 {g i : Nat} {v : Value} {cs cs' : Array Value} {T : TypeId} (hw : W' = W.setCell ⟨g, i, none⟩ v) (hb : W.heap[g]? = some (.cells cs T (0, 0))) (hc : cs.setIfInBounds i v = cs') :
 W'.heap[g]? = some (.cells cs' T (0, 0)) ∧ Ext (fun k => k = g) W W' := by
 subst hw
 exact ⟨blk_put hb i v hc, (Ext.refl _ _).setg v⟩
theorem Ever.ofRow {xs : List Int} {k : IntKind} {e : TypeId} {n : Nat} (h : W.heap[g]? = some (.cells (xs.map (Value.int k)).toArray e (0, 0))) (hl : xs.length ≤ 9223372036854775807) (hM : ¬ M g) : Ever M W (fun W => Kd.C (Kd.int k) W (some ⟨g, 0, none⟩) xs.length xs) := by
 refine (Ever.blk h hM).imp (fun W1 h1 => ?_)
 refine Kd.C_of_reads (enc := Value.int k) (d := (0 : Int)) (h1 := fun _ => rfl) (show ReadsInt W1 k _ _ _ from ⟨rfl, hl, fun hn => ⟨_, rfl, fun j hj => ?_⟩⟩)
 have : (⟨g, 0, none⟩ : Addr).add j = ⟨g, j, none⟩ := by simp [Addr.add] <;> omega
 rw [this, blk_cell h1 j]
 simp only [List.getElem?_toArray, List.getElem?_map, List.getD_eq_getElem?_getD, List.getElem?_eq_getElem hj, Option.map_some, Option.getD_some]
theorem row_C {xs : List Int} {k : IntKind} {e : TypeId} (h : W.heap[g]? = some (.cells (xs.map (Value.int k)).toArray e (0, 0))) (hl : xs.length ≤ 9223372036854775807) : Kd.C (Kd.int k) W (some ⟨g, 0, none⟩) xs.length xs :=
 (Ever.ofRow (M := fun _ => False) (n := 0) h hl (fun a => a)).now
theorem C_cell {xs : List Int} {k : IntKind} {A : Option Addr} (h : Kd.C (Kd.int k) W A xs.length xs) (hn : 0 < xs.length) : ∃ ad, A = some ad ∧ ∀ j, j < xs.length → W.cell? (ad.add j) = some (.int k (xs.getD j 0)) := (Kd.reads_of_C h).2.2 hn
end
end Go.Proofs.Ytlalpooiegganaa.Core
namespace Go.Proofs.Ytlalpooiegganaa.Wk
open Go.RowKit Go.Proofs.YtlalpooiegganaaW.PrintWords Go.Proofs.YtlalpooiegganaaW.PrintLast Go.Proofs.YtlalpooiegganaaW.PrintMore Go.Proofs.Ytlalpooiegganaa.Core
section
variable {P : Program} {ops : Array Oper} {rest : List Oper} {o : Oper} {a : Act} {Q : Exit → Act → World → Prop} {W : World} {Kc : Act → World → Prop}
end
def keyIs (k : Int) (e : MapEntry) : Bool := match e.key with | .int .i64 a => a == k | _ => false
def mget (es : List MapEntry) (k : Int) : Option Value := (es.find? (keyIs k)).map (·.val)
def IntKeys (es : List MapEntry) : Prop := ∀ e ∈ es, ∃ a, e.key = .int .i64 a
structure IsMap (W : World) (m : Nat) (f : Int → Option Value) (n : Nat) : Prop where
 out : ∃ (es : Array MapEntry) (clock : Nat), W.heap[m]? = some (.map es clock) ∧ IntKeys es.toList ∧ es.size ≤ n ∧ ∀ k, mget es.toList k = f k
section
variable {P : Program} {W W' : World} {m n : Nat} {f : Int → Option Value}
theorem IsMap.lt (h : IsMap W m f n) : m < W.heap.size := by obtain ⟨es, c, hb, _⟩ := h.out; exact (Array.getElem?_eq_some_iff.1 hb).1
theorem IsMap.ext {F : Nat → Prop} (h : IsMap W m f n) (k : Ext F W W') (hm : ¬ F m) : IsMap W' m f n := by
 obtain ⟨es, c, hb, h1⟩ := h.out
 exact ⟨es, c, Ext.blk k hb hm, h1⟩
theorem IsMap.mono {n' : Nat} (h : IsMap W m f n) (hn : n ≤ n') : IsMap W m f n' := by
 obtain ⟨es, c, hb, h1, h2, h3⟩ := h.out
 exact ⟨es, c, hb, h1, Nat.le_trans h2 hn, h3⟩
theorem IsMap.new (W : World) : IsMap (W.alloc (.map #[] 0)) W.heap.size (fun _ => none) 0 := ⟨#[], 0, heap_alloc_new W _, by intro e he; simp at he, by simp, fun k => rfl⟩
theorem isKey_int (a : Int) : MapKept.IsKey (.int .i64) (.int .i64 a) := by simp [MapKept.IsKey]
theorem keyIs_iff {e : MapEntry} {k : Int} : keyIs k e = true ↔ e.key = .int .i64 k := by
 unfold keyIs
 split
 ·rename_i a h; rw [h]; simp
 ·rename_i h; constructor
  ·intro h1; cases h1
  ·intro h1; exact absurd h1 (h k)
theorem mget_at {es : List MapEntry} {k : Int} : ∀ {j : Nat} {e : MapEntry}, (∀ i, i < j → ∀ e', es[i]? = some e' → e'.key ≠ .int .i64 k) → es[j]? = some e → e.key = .int .i64 k → mget es k = some e.val := by
 induction es with
 | nil => intro j e _ h; simp at h
 | cons x r ih =>
  intro j e hlt hj hk
  unfold mget
  cases j with
  | zero =>
   simp at hj
   subst hj
   rw [List.find?_cons_of_pos (keyIs_iff.2 hk)]
   rfl
  | succ j =>
   rw [List.find?_cons_of_neg (by intro h1; exact hlt 0 (by omega) x rfl (keyIs_iff.1 h1))]
   exact ih (j := j) (fun i hi e' he' => hlt (i + 1) (by omega) e' (by simpa using he')) (by simpa using hj) hk
theorem mget_none {es : List MapEntry} {k : Int} (h : ∀ e ∈ es, e.key ≠ .int .i64 k) : mget es k = none := by
 unfold mget
 rw [List.find?_eq_none.2 (fun e he h1 => h e he (keyIs_iff.1 h1))]
 rfl
theorem mget_cons (x : MapEntry) (r : List MapEntry) (k : Int) : mget (x :: r) k = if keyIs k x then some x.val else mget r k := by
 unfold mget
 cases h : keyIs k x
 ·rw [List.find?_cons_of_neg (by simp [h])]; simp
 ·rw [List.find?_cons_of_pos h]; simp
theorem mget_append (l r : List MapEntry) (k : Int) : mget (l ++ r) k = (mget l k).or (mget r k) := by
 unfold mget
 rw [List.find?_append]
 cases l.find? (keyIs k) <;> simp
theorem find_first {k : Int} : ∀ (l : List MapEntry) (i : Nat), IntKeys l → (Instr.findNow (.int .i64) (.int .i64 k) l i = some none ∧ ∀ e ∈ l, e.key ≠ .int .i64 k) ∨
 ∃ j e, Instr.findNow (.int .i64) (.int .i64 k) l i = some (some (i + j, e.val)) ∧ l[j]? = some e ∧ e.key = .int .i64 k ∧ ∀ q, q < j → ∀ e', l[q]? = some e' → e'.key ≠ .int .i64 k
 | [], i, _ => .inl ⟨rfl, by simp⟩
 | x :: r, i, h => by
  obtain ⟨b, hb⟩ := h x (.head _)
  have hs : Instr.sameNow (.int .i64) (.int .i64 k) x.key = some (k == b) := by rw [hb]; simp [Instr.sameNow]
  by_cases e : k = b
  ·subst e
   refine .inr ⟨0, x, by simp [Instr.findNow, hs], rfl, hb, fun q hq => by omega⟩
  ·have hne : x.key ≠ .int .i64 k := by rw [hb]; intro q; exact e (by simpa using q.symm)
   have hf : Instr.findNow (.int .i64) (.int .i64 k) (x :: r) i = Instr.findNow (.int .i64) (.int .i64 k) r (i + 1) := by
    have hs' : Instr.sameNow (.int .i64) (.int .i64 k) x.key = some false := by rw [hs]; simp [e]
    simp only [Instr.findNow, hs']
   rcases find_first r (i + 1) (fun y hy => h y (.tail _ hy)) with ⟨h1, h2⟩ | ⟨j, e', h1, h2, h3, h4⟩
   ·refine .inl ⟨by rw [hf]; exact h1, fun y hy => ?_⟩
    cases hy with
    | head => exact hne
    | tail _ hy => exact h2 y hy
   ·refine .inr ⟨j + 1, e', by rw [hf, h1]; congr 3; omega, by simpa using h2, h3, fun q hq e'' he'' => ?_⟩
    cases q with
    | zero => simp at he''; subst he''; exact hne
    | succ q => exact h4 q (by omega) e'' (by simpa using he'')
theorem IsMap.look {t kt et : TypeId} {z : Value} (h : IsMap W m f n) (ht : P.underlying t = some (.map kt et)) (hk : P.underlying kt = some (.int .i64)) (hz : ∀ w, (zeroValue et).run P w = .ok z w) (k : Int) :
 (Instr.lookup t (.map (some m)) (.int .i64 k) false).run P W = .ok ((f k).getD z) W := by
 obtain ⟨es, c, hb, hi, _, hf⟩ := h.out
 rw [← hf k]
 rcases find_first (k := k) es.toList 0 hi with ⟨h1, h2⟩ | ⟨j, e, h1, h2, h3, h4⟩
 ·rw [mget_none h2]
  simp [Instr.lookup, run_underlying ht, MapKept.run_getObj_map hb, MapKept.run_checkKey hk (isKey_int k), MapKept.run_findKey hk h1, hz, Result.andThen]
 ·rw [mget_at h4 h2 h3]
  simp [Instr.lookup, run_underlying ht, MapKept.run_getObj_map hb, MapKept.run_checkKey hk (isKey_int k), MapKept.run_findKey hk h1, Result.andThen]
theorem mget_set {v : Value} {k : Int} : ∀ {l : List MapEntry} {j : Nat} {e e2 : MapEntry}, l[j]? = some e → e.key = .int .i64 k → e2.key = .int .i64 k → e2.val = v → (∀ q, q < j → ∀ e', l[q]? = some e' → e'.key ≠ .int .i64 k) →
 ∀ x, mget (l.set j e2) x = if x = k then some v else mget l x := by
 intro l
 induction l with
 | nil => intro j e e2 h; simp at h
 | cons y r ih =>
  intro j e e2 hj hk hk2 hv hlt x
  cases j with
  | zero =>
   simp at hj
   subst hj
   rw [List.set_cons_zero, mget_cons, mget_cons]
   have a1 : keyIs x e2 = (k == x) := by unfold keyIs; rw [hk2]
   have a2 : keyIs x y = (k == x) := by unfold keyIs; rw [hk]
   rw [a1, a2]
   by_cases h : x = k
   ·subst h; simp [hv]
   ·have : (k == x) = false := by simpa using fun e => h e.symm
    simp [this, h]
  | succ j =>
   rw [List.set_cons_succ, mget_cons, mget_cons]
   have hy := hlt 0 (by omega) y rfl
   have ih' := ih (j := j) (e := e) (e2 := e2) (by simpa using hj) hk hk2 hv (fun q hq e' he' => hlt (q + 1) (by omega) e' (by simpa using he')) x
   rw [ih']
   by_cases h : x = k
   ·subst h
    have : keyIs x y = false := by
     cases hq : keyIs x y
     ·rfl
     ·exact absurd (keyIs_iff.1 hq) hy
    simp [this]
   ·simp [h]
theorem IsMap.update {t kt et : TypeId} (h : IsMap W m f n) (ht : P.underlying t = some (.map kt et)) (hk : P.underlying kt = some (.int .i64)) (k : Int) (v : Value) :
 ∃ W', (Instr.mapUpdate t (.map (some m)) (.int .i64 k) v).run P W = .ok () W' ∧ IsMap W' m (fun j => if j = k then some v else f j) (n + 1) ∧ Ext (fun b => b = m) W W' := by
 obtain ⟨es, c, hb, hi, hn, hf⟩ := h.out
 have hE : ∀ o', Ext (fun b => b = m) W { W with heap := W.heap.setIfInBounds m o' } := fun o' => ⟨rfl, rfl, rfl, by simp, fun b _ hne => (MapKept.heap_set hb).2 b hne⟩
 rcases find_first (k := k) es.toList 0 hi with ⟨h1, h2⟩ | ⟨j, e, h1, h2, h3, h4⟩
 ·refine ⟨{ W with heap := W.heap.setIfInBounds m (.map (es.push ⟨.int .i64 k, v, c⟩) (c + 1)) }, by simp [Instr.mapUpdate, run_underlying ht, MapKept.run_getObj_map hb, MapKept.run_checkKey hk (isKey_int k), MapKept.run_findKey hk h1, MapKept.run_setObj_map _ hb, Result.andThen], ⟨_, _, (MapKept.heap_set hb).1, ?_, by simp; omega, fun x => ?_⟩, hE _⟩
  ·intro y hy
   simp at hy
   rcases hy with hy | rfl
   ·exact hi y (by simpa using hy)
   ·exact ⟨k, rfl⟩
  ·rw [Array.toList_push, mget_append, ← hf x]
   by_cases hx : x = k
   ·subst hx
    rw [mget_none h2, mget_cons]
    simp [keyIs]
   ·rw [mget_cons]
    have : keyIs x ⟨.int .i64 k, v, c⟩ = false := by unfold keyIs; simpa using fun e => hx e.symm
    rw [if_neg hx, this]
    simp [mget]
 ·have hj : es[j]? = some e := by simpa using h2
  have hl : (es.modify j fun e => { e with key := .int .i64 k, val := v }).toList = es.toList.set j { e with key := .int .i64 k, val := v } := by
   rw [Array.toList_modify, ChangeMaps.modify_eq_set _ _ _ _ h2]
  refine ⟨{ W with heap := W.heap.setIfInBounds m (.map (es.modify j fun e => { e with key := .int .i64 k, val := v }) c) }, by simp [Instr.mapUpdate, run_underlying ht, MapKept.run_getObj_map hb, MapKept.run_checkKey hk (isKey_int k), MapKept.run_findKey hk h1, hj, h3, MapKept.run_keyThatStays (isKey_int k), MapKept.run_setObj_map _ hb, Result.andThen], ⟨_, _, (MapKept.heap_set hb).1, ?_, by simp; omega, fun x => ?_⟩, hE _⟩
  ·intro y hy
   rw [hl] at hy
   rcases List.mem_or_eq_of_mem_set hy with hy | rfl
   ·exact hi y hy
   ·exact ⟨k, rfl⟩
  ·rw [hl, mget_set h2 h3 rfl rfl h4 x, hf x]
end
section
variable {P : Program} {ops : Array Oper} {rest : List Oper} {o : Oper} {a : Act} {Q : Exit → Act → World → Prop} {W : World}
end
end Go.Proofs.Ytlalpooiegganaa.Wk
end

section
namespace Go.Proofs.Ytlalpooiegganaa.Msg
open Go.RowKit Go.Proofs.YtlalpooiegganaaW.PrintWords Go.Proofs.YtlalpooiegganaaW.PrintLast Go.Proofs.YtlalpooiegganaaW.PrintMore Go.Proofs.Ytlalpooiegganaa.Core Go.Proofs.Ytlalpooiegganaa.Wk Go.Proofs.Ytlalpooiegganaa.PMasterWaits
set_option linter.unusedVariables false
set_option linter.unusedSimpArgs false
structure SV where
 t : Int
 u : Int
 f : Int
 a : Int
 c : Int
 A : Option Addr
 l : Nat
 k : Nat
 o : Int
 n : Int
 r : Int
def sc (x : SV) : List Value := [.int .i64 x.t, .int .i64 x.u, .int .i64 x.f, .int .i64 x.a, .int .i64 x.c, .slice x.A x.l x.k, .int .i64 x.o, .int .i64 x.n, .int .i64 x.r]
def IRow (W : World) (A : Option Addr) (l : Nat) (vs : List Int) : Prop :=
 vs.length = l ∧ l ≤ 9223372036854775807 ∧ (0 < l → ∃ g cur, A = some ⟨g, 0, none⟩ ∧ W.heap[g]? = some (.cells cur 3 (0, 0)) ∧ ∀ j, j < l → cur[j]? = some (.int .i64 (vs.getD j 0)))
def ks : Kd (SV) where
 sz := 9
 E := []
 K := fun _ x cs => cs = sc x
 M := fun _ _ _ x cs => cs = sc x
 K_len := fun h => by subst h; rfl
 K_one := fun h => by subst h; simp [sc, Value.oneCell']
 K_below := fun _ h => h
 K_of_M := fun h => h
 M_mono := fun _ h => h
 M_bound := fun h => h
 M_move := fun _ h => h
 M_lower := fun _ h => h
def dc (t : Int) : List Value := [.int .i64 t, .slice none 0 0, .int .i64 0, .bool true]
def kd : Kd Int where
 sz := 4
 E := []
 K := fun _ x cs => cs = dc x
 M := fun _ _ _ x cs => cs = dc x
 K_len := fun h => by subst h; rfl
 K_one := fun h => by subst h; simp [dc, Value.oneCell']
 K_below := fun _ h => h
 K_of_M := fun h => h
 M_mono := fun _ h => h
 M_bound := fun h => h
 M_move := fun _ h => h
 M_lower := fun _ h => h
section
variable {W W' : World} {A : Option Addr} {l : Nat} {vs : List Int} {F : Nat → Prop} {g m n : Nat} {f : Int → Option Value} {cs : Array Value} {T : TypeId}
theorem irow_ext (h : IRow W A l vs) (k : Ext F W W') (hF : ∀ j, F j → ∀ cur, W.heap[j]? ≠ some (.cells cur 3 (0, 0))) : IRow W' A l vs := by
 refine ⟨h.1, h.2.1, fun hl => ?_⟩
 obtain ⟨g, cur, e, hb, hc⟩ := h.2.2 hl
 exact ⟨g, cur, e, Ext.blk k hb (fun hg => hF g hg cur hb), hc⟩
theorem irow_below (h : IRow W A l vs) (k : Below W.heap.size W W') : IRow W' A l vs := irow_ext h (Ext.none_ k) (fun _ e => e.elim)
theorem irow_set (h : IRow W A l vs) (k : Ext (fun k => k = g) W W') (hb : W.heap[g]? = some (.cells cs T (0, 0))) (hT : T ≠ 3) : IRow W' A l vs :=
 irow_ext h k (fun j e cur hc => by
  rw [show j = g from e, hb] at hc
  injection hc with hc
  injection hc with _ hc _
  exact hT hc)
def Keeps (W W' : World) : Prop := ∀ (k : Nat) (cs : Array Value) (T : TypeId), W.heap[k]? = some (.cells cs T (0, 0)) → T ≠ 73 → T ≠ 39 → W'.heap[k]? = some (.cells cs T (0, 0))
theorem Keeps.trans {W1 : World} (h : Keeps W W1) (k : Keeps W1 W') : Keeps W W' := fun j cs T x h1 h2 => k j cs T (h j cs T x h1 h2) h1 h2
theorem keeps_below (k : Below W.heap.size W W') : Keeps W W' := fun _ _ _ h _ _ => blk_below h k
theorem Keeps.row (k : Keeps W W') (h : IRow W A l vs) : IRow W' A l vs := by
 refine ⟨h.1, h.2.1, fun hl => ?_⟩
 obtain ⟨g, cur, e, hb, hc⟩ := h.2.2 hl
 exact ⟨g, cur, e, k g cur 3 hb (by decide) (by decide), hc⟩
theorem keeps_then {W0 : World} (h : Keeps W0 W) (k : Below W.heap.size W W') : Keeps W0 W' := h.trans (keeps_below k)
theorem keeps_set {W0 : World} (h : Keeps W0 W) (k : Ext (fun k => k = g) W W') (hb : W.heap[g]? = some (.cells cs T (0, 0))) (hT : T = 73 ∨ T = 39 ∨ W0.heap.size ≤ g) : Keeps W0 W' := by
 intro j cs' T' hj h1 h2
 have hj' := h j cs' T' hj h1 h2
 refine Ext.blk k hj' (fun e => ?_)
 have e : j = g := e
 rw [e, hb] at hj'
 injection hj' with hj'
 injection hj' with _ hj' _
 rcases hT with a | a | a
 ·exact h1 (hj'.symm.trans a)
 ·exact h2 (hj'.symm.trans a)
 ·have := blk_lt hj; omega
theorem keeps_setm {W0 : World} (h : Keeps W0 W) (k : Ext (fun k => k = m) W W') (hm : IsMap W m f n) : Keeps W0 W' := by
 intro j cs' T' hj h1 h2
 have hj' := h j cs' T' hj h1 h2
 refine Ext.blk k hj' (fun e => ?_)
 have e : j = m := e
 obtain ⟨es, c, hb, _⟩ := hm.out
 rw [e, hb] at hj'
 injection hj' with hj'
 cases hj'
theorem irow_nil : IRow W none 0 [] := ⟨rfl, by omega, fun h => absurd h (Nat.lt_irrefl 0)⟩
theorem irow_C (h : IRow W A l vs) : Kd.C (Kd.int .i64) W A vs.length vs := by
 refine Kd.C_of_reads (enc := Value.int .i64) (d := (0 : Int)) (h1 := fun _ => rfl) (show ReadsInt W .i64 _ _ _ from ⟨rfl, by rw [h.1]; exact h.2.1, fun hn => ?_⟩)
 obtain ⟨g, cur, e, hb, hc⟩ := h.2.2 (by rw [← h.1]; exact hn)
 refine ⟨_, e, fun j hj => ?_⟩
 have he : (⟨g, 0, none⟩ : Addr).add j = ⟨g, j, none⟩ := by simp [Addr.add] <;> omega
 rw [he, blk_cell hb j]
 exact hc j (by rw [← h.1]; exact hj)
theorem irow_own {B : Nat} {M : Nat → Prop} {v : Value} (h : OwnE (Kd.int .i64) M 3 B W v vs) (hl : vs.length ≤ 9223372036854775807) : ∃ A' k', v = .slice A' vs.length k' ∧ vs.length ≤ k' ∧ IRow W A' vs.length vs := by
 obtain ⟨i, h1, h2⟩ := h
 obtain ⟨A', k', e⟩ := own_slice h1
 refine ⟨A', k', e, by subst e; exact own_cap h1, rfl, hl, fun hn => ?_⟩
 obtain ⟨g, cap, e2, _, _⟩ := h1.form hn
 rw [e] at e2
 injection e2 with e2 _ _
 obtain ⟨cur, hb⟩ := own_typed h1 g (by rw [e, e2]; rfl)
 refine ⟨g, cur, e2, hb, fun j hj => ?_⟩
 subst e
 subst e2
 have hi : i[j]? = some (.int .i64 (vs.getD j 0)) := by
  have h3 := h2.2 j _ (List.getElem?_eq_getElem hj)
  have h4 : (i.drop (j * (Kd.int .i64).sz)).take (Kd.int .i64).sz = [Value.int .i64 vs[j]] := h3.now
  rw [show (Kd.int .i64).sz = 1 from rfl, Nat.mul_one] at h4
  have h5 := congrArg (fun l => l[0]?) h4
  simp only [List.getElem?_take, List.getElem?_drop] at h5
  rw [List.getD_eq_getElem?_getD, List.getElem?_eq_getElem hj]
  simpa using h5
 have := h1.cells rfl j _ hi
 rw [show (⟨g, 0, none⟩ : Addr).add j = ⟨g, j, none⟩ from by simp [Addr.add] <;> omega, blk_cell hb j] at this
 exact this
end
theorem info39 : (Try.prog.info? 39).map (fun i => (i.zero, i.size, i.bytes)) = some (some (.agg #[.int .i64 0, .int .i64 0, .int .i64 0, .int .i64 0, .int .i64 0, .slice none 0 0, .int .i64 0, .int .i64 0, .int .i64 0]), 9, 88) := by kernel_rfl
theorem info48 : (Try.prog.info? 48).map (fun i => (i.zero, i.size, i.bytes)) = some (some (.agg #[.int .i64 0, .slice none 0 0, .int .i64 0, .bool false]), 4, 48) := by kernel_rfl
theorem zeroI (w : World) : (zeroValue 3).run Try.prog w = .ok (.int .i64 0) w := by kernel_rfl
structure MS where
 wait : Int
 again : Int
 pause : Int
 now : Int
 tk : Int
 line : List (SV)
 out : Option (SV)
 times : Int
 last : Int
 rest : Int → Int
def IsOut (B : Nat) (W : World) (vl vo : Value) : Option (SV) → Prop
 | none => vo = .pointer none
 | some x => ∃ go, vo = .pointer (some ⟨go, 0, none⟩) ∧ W.heap[go]? = some (.cells (sc x).toArray 39 (0, 0)) ∧ B ≤ go ∧ ∀ k, vl.ownBlock = some k → k ≠ go
def mc (wait again pause now tk : Int) (vl vo : Value) (times last : Int) (m : Nat) : Array Value := #[.int .i64 wait, .int .i64 again, .int .i64 pause, .int .i64 now, .int .i64 tk, vl, vo, .int .i64 times, .int .i64 last, .map (some m)]
structure IsM (B : Nat) (W : World) (g m : Nat) (s : MS) : Prop where
 out : ∃ vl vo, W.heap[g]? = some (.cells (mc s.wait s.again s.pause s.now s.tk vl vo s.times s.last m) 73 (0, 0)) ∧ OwnE ks (fun _ => False) 39 B W vl s.line ∧ IsOut B W vl vo s.out
 mp : ∃ f n, IsMap W m f n ∧ ∀ k, (f k).getD (.int .i64 0) = .int .i64 (s.rest k)
def Mm (B g m k : Nat) : Prop := k = g ∨ k = m ∨ B ≤ k
def Gm (g m k : Nat) : Prop := k = g ∨ k = m
section
variable {B : Nat} {F : Nat → Prop} {W W' : World} {vl vo : Value} {l : List (SV)} {o : Option (SV)} {g m n : Nat} {s : MS} {f : Int → Option Value} {cs : Array Value} {T : TypeId}
theorem ks_mv (h : OwnE ks (fun _ => False) 39 B W vl l) (k : Ext F W W') (hf : ∀ k, vl.ownBlock = some k → ¬ F k) : OwnE ks (fun _ => False) 39 B W' vl l := by
 obtain ⟨i, h1, h2⟩ := h
 exact ⟨i, own_move h1 (fun b hb => k.block b (own_lt h1 b hb) (hf b hb)), h2.imp_ (fun x cs h => Ever.triv (p := cs = sc x) h.now)⟩
theorem ks_ne (h : OwnE ks (fun _ => False) 39 B W vl l) (hb : W.heap[g]? = some (.cells cs T (0, 0))) (hT : T ≠ 39) : ∀ k, vl.ownBlock = some k → k ≠ g := by
 intro k hk e
 obtain ⟨i, h1, _⟩ := h
 obtain ⟨cells, hc⟩ := own_typed h1 k hk
 rw [e, hb] at hc
 injection hc with hc
 injection hc with _ hc _
 exact hT hc
theorem ks_nm (h : OwnE ks (fun _ => False) 39 B W vl l) (hm : IsMap W m f n) : ∀ k, vl.ownBlock = some k → k ≠ m := by
 intro k hk e
 obtain ⟨i, h1, _⟩ := h
 obtain ⟨cells, hc⟩ := own_typed h1 k hk
 obtain ⟨es, c, hb, _⟩ := hm.out
 rw [e, hb] at hc
 injection hc with hc
 cases hc
theorem cell_nm (hb : W.heap[g]? = some (.cells cs T (0, 0))) (hm : IsMap W m f n) : g ≠ m := by
 intro e
 obtain ⟨es, c, hb2, _⟩ := hm.out
 rw [e, hb2] at hb
 injection hb with hb
 cases hb
theorem extM {B0 : Nat} (h : Ext (Mm B g m) W W') (hg : B0 ≤ g) (hm : B0 ≤ m) (hb : B0 ≤ B) (hB : B0 ≤ W.heap.size) : Below B0 W W' := ⟨h.os, h.tape, h.output, h.size, fun i hi => h.block i (by omega) (fun a => by rcases a with a | a | a <;> omega)⟩
theorem extG (h : Ext (Gm g m) W W') : Ext (Mm B g m) W W' := h.sub (fun k e => e.elim .inl (fun e => .inr (.inl e)))
theorem extg (h : Ext (fun k => k = g) W W') : Ext (Gm g m) W W' := h.sub (fun k e => .inl e)
theorem IsOut.set (h : IsOut B W vl vo o) (k : Ext (fun k => k = g) W W') (hb : W.heap[g]? = some (.cells cs T (0, 0))) (hT : T ≠ 39) : IsOut B W' vl vo o := by
 cases o with
 | none => exact h
 | some x => obtain ⟨go, h1, h2, h3⟩ := h; exact ⟨go, h1, Ext.blk k h2 (blk_ne h2 hb hT.symm), h3⟩
theorem IsOut.below (h : IsOut B W vl vo o) (k : Below W.heap.size W W') : IsOut B W' vl vo o := by
 cases o with
 | none => exact h
 | some x => obtain ⟨go, h1, h2, h3⟩ := h; exact ⟨go, h1, blk_below h2 k, h3⟩
theorem IsM.below (h : IsM B W g m s) (k : Below W.heap.size W W') : IsM B W' g m s := by
 obtain ⟨vl, vo, h1, h2, h3⟩ := h.out
 obtain ⟨f, n, h4, h5⟩ := h.mp
 exact ⟨⟨vl, vo, blk_below h1 k, ks_mv h2 (Ext.none_ k) (fun _ _ e => e), h3.below k⟩, ⟨f, n, h4.ext (Ext.none_ k) (fun e => e), h5⟩⟩
theorem own_lw {B' : Nat} {e : TypeId} {sz n : Nat} {v : Value} {i : List Value} (h : W.ownsRow B e sz v n i) (hB : B' ≤ B) : W.ownsRow B' e sz v n i := by
 obtain ⟨h1, h2⟩ := h
 refine ⟨h1, ?_⟩
 rcases h2 with h2 | ⟨g, cap, cur, e, hg, r⟩
 ·exact .inl h2
 ·exact .inr ⟨g, cap, cur, e, by omega, r⟩
end
theorem cl2_ {p : Prop} {w : World} {g : Nat} {t : TypeId} {v0 v1 : Value} (h : w.heap[g]? = some (.cells #[v0, v1] t (0, 0))) (k : w.cell? ⟨g, 0, none⟩ = some v0 → w.cell? ⟨g, 1, none⟩ = some v1 → w.frozen? ⟨g, 0, none⟩ = false → w.frozen? ⟨g, 1, none⟩ = false → p) : p := k ((blk_cell h 0).trans rfl) ((blk_cell h 1).trans rfl) (blk_frozen h 0) (blk_frozen h 1)
theorem cl4_ {p : Prop} {w : World} {g : Nat} {t : TypeId} {v0 v1 v2 v3 : Value} (h : w.heap[g]? = some (.cells #[v0, v1, v2, v3] t (0, 0))) (k : w.cell? ⟨g, 0, none⟩ = some v0 → w.cell? ⟨g, 1, none⟩ = some v1 → w.cell? ⟨g, 2, none⟩ = some v2 → w.cell? ⟨g, 3, none⟩ = some v3 → w.frozen? ⟨g, 0, none⟩ = false → w.frozen? ⟨g, 1, none⟩ = false → w.frozen? ⟨g, 2, none⟩ = false → w.frozen? ⟨g, 3, none⟩ = false → p) : p := k ((blk_cell h 0).trans rfl) ((blk_cell h 1).trans rfl) ((blk_cell h 2).trans rfl) ((blk_cell h 3).trans rfl) (blk_frozen h 0) (blk_frozen h 1) (blk_frozen h 2) (blk_frozen h 3)
theorem cl7_ {p : Prop} {w : World} {g : Nat} {t : TypeId} {v0 v1 v2 v3 v4 v5 v6 : Value} (h : w.heap[g]? = some (.cells #[v0, v1, v2, v3, v4, v5, v6] t (0, 0))) (k : w.cell? ⟨g, 0, none⟩ = some v0 → w.cell? ⟨g, 1, none⟩ = some v1 → w.cell? ⟨g, 2, none⟩ = some v2 → w.cell? ⟨g, 3, none⟩ = some v3 → w.cell? ⟨g, 4, none⟩ = some v4 → w.cell? ⟨g, 5, none⟩ = some v5 → w.cell? ⟨g, 6, none⟩ = some v6 → w.frozen? ⟨g, 0, none⟩ = false → w.frozen? ⟨g, 1, none⟩ = false → w.frozen? ⟨g, 2, none⟩ = false → w.frozen? ⟨g, 3, none⟩ = false → w.frozen? ⟨g, 4, none⟩ = false → w.frozen? ⟨g, 5, none⟩ = false → w.frozen? ⟨g, 6, none⟩ = false → p) : p := k ((blk_cell h 0).trans rfl) ((blk_cell h 1).trans rfl) ((blk_cell h 2).trans rfl) ((blk_cell h 3).trans rfl) ((blk_cell h 4).trans rfl) ((blk_cell h 5).trans rfl) ((blk_cell h 6).trans rfl) (blk_frozen h 0) (blk_frozen h 1) (blk_frozen h 2) (blk_frozen h 3) (blk_frozen h 4) (blk_frozen h 5) (blk_frozen h 6)
theorem cl9_ {p : Prop} {w : World} {g : Nat} {t : TypeId} {v0 v1 v2 v3 v4 v5 v6 v7 v8 : Value} (h : w.heap[g]? = some (.cells #[v0, v1, v2, v3, v4, v5, v6, v7, v8] t (0, 0))) (k : w.cell? ⟨g, 0, none⟩ = some v0 → w.cell? ⟨g, 1, none⟩ = some v1 → w.cell? ⟨g, 2, none⟩ = some v2 → w.cell? ⟨g, 3, none⟩ = some v3 → w.cell? ⟨g, 4, none⟩ = some v4 → w.cell? ⟨g, 5, none⟩ = some v5 → w.cell? ⟨g, 6, none⟩ = some v6 → w.cell? ⟨g, 7, none⟩ = some v7 → w.cell? ⟨g, 8, none⟩ = some v8 → w.frozen? ⟨g, 0, none⟩ = false → w.frozen? ⟨g, 1, none⟩ = false → w.frozen? ⟨g, 2, none⟩ = false → w.frozen? ⟨g, 3, none⟩ = false → w.frozen? ⟨g, 4, none⟩ = false → w.frozen? ⟨g, 5, none⟩ = false → w.frozen? ⟨g, 6, none⟩ = false → w.frozen? ⟨g, 7, none⟩ = false → w.frozen? ⟨g, 8, none⟩ = false → p) : p := k ((blk_cell h 0).trans rfl) ((blk_cell h 1).trans rfl) ((blk_cell h 2).trans rfl) ((blk_cell h 3).trans rfl) ((blk_cell h 4).trans rfl) ((blk_cell h 5).trans rfl) ((blk_cell h 6).trans rfl) ((blk_cell h 7).trans rfl) ((blk_cell h 8).trans rfl) (blk_frozen h 0) (blk_frozen h 1) (blk_frozen h 2) (blk_frozen h 3) (blk_frozen h 4) (blk_frozen h 5) (blk_frozen h 6) (blk_frozen h 7) (blk_frozen h 8)
theorem cl10_ {p : Prop} {w : World} {g : Nat} {t : TypeId} {v0 v1 v2 v3 v4 v5 v6 v7 v8 v9 : Value} (h : w.heap[g]? = some (.cells #[v0, v1, v2, v3, v4, v5, v6, v7, v8, v9] t (0, 0))) (k : w.cell? ⟨g, 0, none⟩ = some v0 → w.cell? ⟨g, 1, none⟩ = some v1 → w.cell? ⟨g, 2, none⟩ = some v2 → w.cell? ⟨g, 3, none⟩ = some v3 → w.cell? ⟨g, 4, none⟩ = some v4 → w.cell? ⟨g, 5, none⟩ = some v5 → w.cell? ⟨g, 6, none⟩ = some v6 → w.cell? ⟨g, 7, none⟩ = some v7 → w.cell? ⟨g, 8, none⟩ = some v8 → w.cell? ⟨g, 9, none⟩ = some v9 → w.frozen? ⟨g, 0, none⟩ = false → w.frozen? ⟨g, 1, none⟩ = false → w.frozen? ⟨g, 2, none⟩ = false → w.frozen? ⟨g, 3, none⟩ = false → w.frozen? ⟨g, 4, none⟩ = false → w.frozen? ⟨g, 5, none⟩ = false → w.frozen? ⟨g, 6, none⟩ = false → w.frozen? ⟨g, 7, none⟩ = false → w.frozen? ⟨g, 8, none⟩ = false → w.frozen? ⟨g, 9, none⟩ = false → p) : p := k ((blk_cell h 0).trans rfl) ((blk_cell h 1).trans rfl) ((blk_cell h 2).trans rfl) ((blk_cell h 3).trans rfl) ((blk_cell h 4).trans rfl) ((blk_cell h 5).trans rfl) ((blk_cell h 6).trans rfl) ((blk_cell h 7).trans rfl) ((blk_cell h 8).trans rfl) ((blk_cell h 9).trans rfl) (blk_frozen h 0) (blk_frozen h 1) (blk_frozen h 2) (blk_frozen h 3) (blk_frozen h 4) (blk_frozen h 5) (blk_frozen h 6) (blk_frozen h 7) (blk_frozen h 8) (blk_frozen h 9)
def fl (n k : Nat) : Array Bool := ((List.range n).map k.testBit).toArray
section
variable {P : Program} {ops : Array Oper} {Q : Exit → Act → World → Prop} {md : Region.Mode} {S : World → Prop} {ds : List Nat} {oi : Oper} {v : Value} {fuel : Nat} {l : Array Bool} {a a' : Act} {w : World}
theorem pu_ (i : Nat) (N : Tmp) (l' : Array Bool) (hi : ops[i]? = some oi) (hN : oi.dst = some N) (hc : anyB md ops l l' i = true) (h : wpAnyLast P md ops Q S ds fuel l' a' w) (hQ : ∀ c a w, Q (.panic c) (a.put oi.dst v) w → Q (.panic c) a w := by exact fun _ _ _ h => h)
 (hy : Yields P ops oi v a := by (exact Or.inl ⟨by rfl, by (intro w'; go_simp; with_reducible rfl)⟩)) (ha : a.put (some N) v = a' := by (simp only [Act.put, List.setIfInBounds_toArray, List.set_cons_zero, List.set_cons_succ, i64_w, i32_w]; rfl)) : wpAnyLast P md ops Q S ds (fuel + 1) l a w := pure_ l' hi hN hc hQ hy ha h
theorem tk_ (i : Nat) (N : Tmp) (l' : Array Bool) (hi : ops[i]? = some oi) (hN : oi.dst = some N) (hc : takeB md ops ds l l' i = true) (hS : S w) (h : wpAnyLast P md ops Q S ds fuel l' a' w) (hQ : ∀ c a w, Q (.panic c) (a.put oi.dst v) w → Q (.panic c) a w := by exact fun _ _ _ h => h)
 (hy : YieldsIf P ops S oi v a := by (exact Or.inl ⟨by rfl, by (intro w' hS_; go_simp; with_reducible rfl)⟩)) (ha : a.put (some N) v = a' := by (simp only [Act.put, List.setIfInBounds_toArray, List.set_cons_zero, List.set_cons_succ, i64_w, i32_w]; rfl)) : wpAnyLast P md ops Q S ds (fuel + 1) l a w := take_ l' hi hN hc hQ hy hS ha h
end
theorem eqn_n (w : World) (l k : Nat) : (binOp .eql 29 (.slice none l k) (.slice none 0 0)).run Try.prog w = .ok (.bool true) w := Lib.run_eql_slice_nil_nil w l k Try.underlying29
theorem eqn_s (w : World) (ad : Addr) (l k : Nat) : (binOp .eql 29 (.slice (some ad) l k) (.slice none 0 0)).run Try.prog w = .ok (.bool false) w := Lib.run_eql_slice_some_nil w ad l k Try.underlying29
theorem bs_ev {P : Program} {ops : Array Oper} {rest : List Oper} {o : Oper} {a : Act} {Q : Exit → Act → World → Prop} {W : World} {N : Tmp} (hgd : o.guard = none) (_hd : o.dst = some N) {cs : Array Value} {t n : Nat}
 (hrun : (execOp a.eval o).run P W = .ok (.value (.slice (some ⟨W.heap.size, 0, none⟩) n n)) (W.alloc (.cells cs t (0, 0))))
 (h : ∀ g, g = W.heap.size → ∀ w1, w1.heap[g]? = some (.cells cs t (0, 0)) → Below W.heap.size W w1 → wpList P ops Q rest (a.put o.dst (.slice (some ⟨g, 0, none⟩) n n)) w1) : wpList P ops Q (o :: rest) a W :=
 Kd.event_run hgd hrun (h _ rfl _ (blk_new W _) (below_alloc (Below.refl _ _) _))
theorem empty_own {W : World} {g : Nat} (h : W.heap[g]? = some (.cells #[] 3 (0, 0))) : OwnE (Kd.int .i64) (fun _ => False) 3 g W (.slice (some ⟨g, 0, none⟩) 0 0) ([] : List Int) := by
 exact ⟨[], ⟨by simp, .inr ⟨g, 0, #[], rfl, Nat.le_refl _, h, Nat.le_refl _, by simp [maxLen], by simp, by simp⟩⟩, Reps.none _ _⟩
set_option maxHeartbeats 4000000 in
set_option maxRecDepth 100000 in
theorem clone_none (l k : Nat) (w : World) : Calls Try.prog 30 #[.slice none l k] w fun e w' => e = .returned (.slice none 0 0) ∧ w = w' := by
 have hn := eqn_n
 go_enter Try.func30, Try.ntmps30
 go_wp2
 go_ret
 exact ⟨rfl, rfl⟩
set_option maxHeartbeats 4000000 in
set_option maxRecDepth 100000 in
theorem clone_k {A : Option Addr} {k : Nat} {vs : List Int} {w : World} (h : Kd.C (Kd.int .i64) w A vs.length vs) (hl : vs.length ≤ 100000) : Calls Try.prog 30 #[.slice A vs.length k] w fun e w' => ∃ A' k', e = .returned (.slice A' vs.length k') ∧ vs.length ≤ k' ∧ IRow w' A' vs.length vs ∧ Below w.heap.size w w' := by
 cases A with
 | none =>
  have h0 : vs.length = 0 := by
   rcases Nat.eq_zero_or_pos vs.length with a | a
   ·exact a
   ·obtain ⟨ad, e, _⟩ := h.2.2 a; cases e
  have hv : vs = [] := List.eq_nil_of_length_eq_zero h0
  subst hv
  exact (clone_none 0 k w).mono (fun e w' he => ⟨none, 0, he.1, Nat.le_refl _, by rw [← he.2]; exact irow_nil, by rw [← he.2]; exact Below.refl _ _⟩)
 | some ad =>
  have hs := eqn_s
  have HC := Aside0.mk h
  have HL := Aside0.mk hl
  clear h hl
  go_enter Try.func30, Try.ntmps30
  go_wp2_with (first | ((with_reducible refine gate_dst (N := 5) rfl ?_); refine bs_ev (N := 5) ?hg ?hd (cs := #[]) (t := 3) (n := 0) ?hr ?_; (case hd => rfl); (case hg => rfl); (case hr => first | (go_simp; done) | (go_simp; rfl)); intro gbs hgs w1 hbs HBS0; have HBX := Aside0.mk hbs; have HBS := Aside0.mk HBS0; have HGS := Aside0.mk hgs; clear hgs; have HLl : Aside0 (Core.RowE (Kd.int .i64) (fun k => w.heap.size ≤ k) w1 (some ad) vs.length vs) := ⟨(Core.RowE.old HC.out (fun _ h => h)).step (.of_below HBS0)⟩; clear HBS0 hbs) | ((with_reducible refine gate_builtin (b := .append) (xs := #[.tmp 5, .tmp 6]) rfl ?_); refine Core.ev_append_rows (M := fun _ => False) (Kd.int .i64) (w0 := w1) gbs rfl (.tmp 5) (.tmp 6) 29 3 (.int .i64 0) 8 rfl Try.underlying29 info3 rfl (by decide) (by decide) (.slice (some ⟨gbs, 0, none⟩) 0 0) [] vs (some ad) vs.length k rfl rfl (empty_own HBX.out) (Core.RowE.elems (HLl.out.grow (Core.Ext.refl _ _) (fun k hk => by rcases hk with (hk | hk); exact hk.elim; exact .inl (by have hk2 : k = gbs := (by simpa [Value.ownBlock] using hk); rw [hk2, HGS.out]; exact Nat.le_refl _)))) (Below.refl _ _) (Nat.le_of_lt (blk_lt HBX.out)) (by have := HL.out; simp only [List.length_nil]; omega) ?_; intro v1 w2 HO1 HB1 _ _; rw [List.nil_append] at HO1; have HO := Aside0.mk HO1; have HBc : Aside0 (Below w.heap.size w w2) := ⟨by have h := HB1; rw [HGS.out] at h; exact ⟨h.os.trans HBS.out.os, h.tape.trans HBS.out.tape, h.output.trans HBS.out.output, Nat.le_trans HBS.out.size h.size, fun i hi => (h.block i hi).trans (HBS.out.block i hi)⟩⟩; clear HO1 HB1))
  go_ret
  obtain ⟨A', k', e, hkc, hi⟩ := irow_own HO.out (by have := HL.out; omega)
  subst e
  exact ⟨A', k', rfl, hkc, hi, HBc.out⟩
theorem clone_c {A : Option Addr} {l k : Nat} {vs : List Int} {w : World} (h : IRow w A l vs) (hl : l ≤ 100000) : Calls Try.prog 30 #[.slice A l k] w fun e w' => ∃ A' k', e = .returned (.slice A' l k') ∧ l ≤ k' ∧ IRow w' A' l vs ∧ Below w.heap.size w w' := by
 have hlen := h.1
 subst hlen
 exact clone_k (irow_C h) hl
set_option maxHeartbeats 4000000 in
set_option maxRecDepth 100000 in
theorem goon_f {B : Nat} {w : World} {g m : Nat} {wait again pause now tk times last : Int} {line : List (SV)} {rest : Int → Int} {out : Option SV} (h : IsM B w g m ⟨wait, again, pause, now, tk, line, out, times, last, rest⟩) (hB : B ≤ w.heap.size) (t : Int) (h0 : 0 ≤ t) (h1 : now ≤ t) : Calls Try.prog 31 #[.pointer (some ⟨g, 0, none⟩), .int .i64 t] w fun e w' => e = .returned (.int .i64 0) ∧ IsM B w' g m ⟨wait, again, pause, t, tk, line, out, times, last, rest⟩ ∧ Ext (fun k => k = g) w w' ∧ Keeps w w' := by
 have q0 : decide (t < 0) = false := decide_eq_false (by omega)
 have q1 : decide (t < now) = false := decide_eq_false (by omega)
 clear h0 h1
 have HBW := Aside0.mk hB
 obtain ⟨⟨vl, vo, hb, hl, ho⟩, ⟨f, n, hm, hf⟩⟩ := h
 have BK_g : Aside0 (w.heap[g]? = some (.cells #[.int .i64 wait, .int .i64 again, .int .i64 pause, .int .i64 now, .int .i64 tk, vl, vo, .int .i64 times, .int .i64 last, .map (some m)] 73 (0, 0))) := ⟨hb⟩
 have OB_l : Aside0 (OwnE ks (fun _ => False) 39 B w vl (line)) := ⟨hl⟩
 have MP_m := Aside0.mk hm; have HF := Aside0.mk hf
 have NE_l_g : Aside0 (∀ k, (vl).ownBlock = some k → k ≠ g) := ⟨ks_ne hl hb (by decide)⟩; have NE_l_m : Aside0 (∀ k, (vl).ownBlock = some k → k ≠ m) := ⟨ks_nm hl hm⟩; have NE_g_m : Aside0 (g ≠ m) := ⟨cell_nm hb hm⟩; have NE_m_g : Aside0 (m ≠ g) := ⟨fun e => NE_g_m.out e.symm⟩; have F_g : Aside0 (∀ k, k = g → k = g ∨ w.heap.size ≤ k) := ⟨fun k e => .inl e⟩
 have HO : Aside0 (IsOut B w vl vo out) := ⟨ho⟩; clear ho
 clear hb hl hm hf hB
 have XT : Aside0 (Ext (fun k => k = g) w w) := ⟨Ext.refl _ _⟩
 refine cl10_ BK_g.out ?_; intro lc1_0 lc1_1 lc1_2 lc1_3 lc1_4 lc1_5 lc1_6 lc1_7 lc1_8 lc1_9 lf1_0 lf1_1 lf1_2 lf1_3 lf1_4 lf1_5 lf1_6 lf1_7 lf1_8 lf1_9
 have KP : Aside0 (Keeps w w) := ⟨fun _ _ _ h _ _ => h⟩
 go_enter Try.func31, Try.ntmps31
 go_wp2_with (first | ((with_reducible refine gate_store (p := 22) rfl ?_); refine store_event (w1 := ?_) rfl (p := 22) rfl rfl ?hr ?_; rotate_left; (case hr => go_simp; rfl); intro w1 hw_; obtain ⟨hput, HEc⟩ := put1 (cs' := #[.int .i64 wait, .int .i64 again, .int .i64 pause, .int .i64 t, .int .i64 tk, vl, vo, .int .i64 times, .int .i64 last, .map (some m)]) hw_ BK_g.out rfl; clear hw_; replace OB_l := Aside0.mk (ks_mv OB_l.out HEc NE_l_g.out); replace KP := Aside0.mk (keeps_set KP.out HEc BK_g.out (.inl rfl)); replace HO := Aside0.mk (HO.out.set HEc BK_g.out (by decide)); clear lc1_0 lc1_1 lc1_2 lc1_3 lc1_4 lc1_5 lc1_6 lc1_7 lc1_8 lc1_9 lf1_0 lf1_1 lf1_2 lf1_3 lf1_4 lf1_5 lf1_6 lf1_7 lf1_8 lf1_9; replace MP_m := Aside0.mk (IsMap.ext MP_m.out HEc NE_m_g.out); replace XT := Aside0.mk (XT.out.step HEc (F_g.out)); clear BK_g; have BK_g : Aside0 (w1.heap[g]? = some (.cells #[.int .i64 wait, .int .i64 again, .int .i64 pause, .int .i64 t, .int .i64 tk, vl, vo, .int .i64 times, .int .i64 last, .map (some m)] 73 (0, 0))) := ⟨hput⟩; clear hput HEc; refine cl10_ BK_g.out ?_; intro lc2_0 lc2_1 lc2_2 lc2_3 lc2_4 lc2_5 lc2_6 lc2_7 lc2_8 lc2_9 lf2_0 lf2_1 lf2_2 lf2_3 lf2_4 lf2_5 lf2_6 lf2_7 lf2_8 lf2_9))
 go_ret
 exact ⟨rfl, ⟨⟨_, _, BK_g.out, OB_l.out, HO.out⟩, ⟨_, _, MP_m.out, HF.out⟩⟩, XT.out, KP.out⟩
set_option maxHeartbeats 4000000 in
set_option maxRecDepth 100000 in
theorem send_f {B : Nat} {w : World} {g m : Nat} {wait again pause now tk times last : Int} {line : List (SV)} {rest : Int → Int} {x : SV} {vs : List Int} (h : IsM B w g m ⟨wait, again, pause, now, tk, line, some x, times, last, rest⟩) (hB : B ≤ w.heap.size) (hV : IRow w x.A x.l vs) (hl : x.l ≤ 100000) : Calls Try.prog 32 #[.pointer (some ⟨g, 0, none⟩)] w fun e w' => ∃ A' k', e = .returned (.agg #[.int .i64 x.t, .int .i64 x.u, .int .i64 x.f, .int .i64 x.a, .int .i64 x.c, .slice A' x.l k', .int .i64 x.o, .int .i64 x.n, .int .i64 x.r]) ∧ x.l ≤ k' ∧ IRow w' A' x.l vs ∧ IsM B w' g m ⟨wait, again, pause, now, tk, line, some x, wrap64 (times + 1), now, rest⟩ ∧ Ext (fun k => k = g) w w' ∧ Keeps w w' := by
 have IR_v : Aside0 (IRow w (x.A) (x.l) (vs)) := ⟨hV⟩; have HLV := Aside0.mk hl; clear hV hl
 have HBW := Aside0.mk hB
 obtain ⟨⟨vl, vo, hb, hl, ho⟩, ⟨f, n, hm, hf⟩⟩ := h
 obtain ⟨go, rfl, hgo, bgo, nlo⟩ := ho
 have BK_g : Aside0 (w.heap[g]? = some (.cells #[.int .i64 wait, .int .i64 again, .int .i64 pause, .int .i64 now, .int .i64 tk, vl, .pointer (some ⟨go, 0, none⟩), .int .i64 times, .int .i64 last, .map (some m)] 73 (0, 0))) := ⟨hb⟩
 have OB_l : Aside0 (OwnE ks (fun _ => False) 39 B w vl (line)) := ⟨hl⟩
 have MP_m := Aside0.mk hm; have HF := Aside0.mk hf
 have NE_l_g : Aside0 (∀ k, (vl).ownBlock = some k → k ≠ g) := ⟨ks_ne hl hb (by decide)⟩; have NE_l_m : Aside0 (∀ k, (vl).ownBlock = some k → k ≠ m) := ⟨ks_nm hl hm⟩; have NE_g_m : Aside0 (g ≠ m) := ⟨cell_nm hb hm⟩; have NE_m_g : Aside0 (m ≠ g) := ⟨fun e => NE_g_m.out e.symm⟩; have F_g : Aside0 (∀ k, k = g → k = g ∨ w.heap.size ≤ k) := ⟨fun k e => .inl e⟩
 have BK_go : Aside0 (w.heap[go]? = some (.cells #[.int .i64 x.t, .int .i64 x.u, .int .i64 x.f, .int .i64 x.a, .int .i64 x.c, .slice x.A x.l x.k, .int .i64 x.o, .int .i64 x.n, .int .i64 x.r] 39 (0, 0))) := ⟨hgo⟩; have BGO := Aside0.mk bgo; have NE_l_go : Aside0 (∀ k, (vl).ownBlock = some k → k ≠ go) := ⟨nlo⟩; have NE_go_g : Aside0 (go ≠ g) := ⟨blk_ne hgo hb (by decide)⟩; have NE_g_go : Aside0 (g ≠ go) := ⟨fun e => NE_go_g.out e.symm⟩; have NE_go_m : Aside0 (go ≠ m) := ⟨cell_nm hgo hm⟩; have NE_m_go : Aside0 (m ≠ go) := ⟨fun e => NE_go_m.out e.symm⟩; clear hgo bgo nlo
 clear hb hl hm hf hB
 have XT : Aside0 (Ext (fun k => k = g) w w) := ⟨Ext.refl _ _⟩
 refine cl10_ BK_g.out ?_; intro lc1_0 lc1_1 lc1_2 lc1_3 lc1_4 lc1_5 lc1_6 lc1_7 lc1_8 lc1_9 lf1_0 lf1_1 lf1_2 lf1_3 lf1_4 lf1_5 lf1_6 lf1_7 lf1_8 lf1_9
 refine cl9_ BK_go.out ?_; intro lc2_0 lc2_1 lc2_2 lc2_3 lc2_4 lc2_5 lc2_6 lc2_7 lc2_8 lf2_0 lf2_1 lf2_2 lf2_3 lf2_4 lf2_5 lf2_6 lf2_7 lf2_8
 have KP : Aside0 (Keeps w w) := ⟨fun _ _ _ h _ _ => h⟩
 have hu39 := Try.underlying39
 go_enter Try.func32, Try.ntmps32
 go_wp2_with (first | ((with_reducible refine gate_dst (N := 2) rfl ?_); refine bx_ (N := 2) (cs := #[.int .i64 0, .int .i64 0, .int .i64 0, .int .i64 0, .int .i64 0, .slice none 0 0, .int .i64 0, .int .i64 0, .int .i64 0]) (t := 39) ?_; intro r hg w1 hbox HBc; have NE_l_r : Aside0 (∀ k, (vl).ownBlock = some k → k ≠ r) := ⟨fun k hk e => by have := OwnE.lt OB_l.out k hk; omega⟩; have NE_g_r : Aside0 (g ≠ r) := ⟨ne_born (blk_lt BK_g.out) hg⟩; have NE_r_g : Aside0 (r ≠ g) := ⟨fun e => NE_g_r.out e.symm⟩; have NE_go_r : Aside0 (go ≠ r) := ⟨ne_born (blk_lt BK_go.out) hg⟩; have NE_r_go : Aside0 (r ≠ go) := ⟨fun e => NE_go_r.out e.symm⟩; have NE_m_r : Aside0 (m ≠ r) := ⟨ne_born (IsMap.lt MP_m.out) hg⟩; have NE_r_m : Aside0 (r ≠ m) := ⟨fun e => NE_m_r.out e.symm⟩; have F_r : Aside0 (∀ k, k = r → (fun k => k = g) k ∨ w.heap.size ≤ k) := ⟨fnew hg XT.out.size⟩; have RG_r : Aside0 (w.heap.size ≤ r) := ⟨Nat.le_trans XT.out.size (Nat.le_of_eq hg.symm)⟩; have BG_r : Aside0 (B ≤ r) := ⟨Nat.le_trans HBW.out RG_r.out⟩; clear hg; replace OB_l := Aside0.mk (ks_mv OB_l.out (Ext.none_ HBc) (fun _ _ e => e)); replace IR_v := Aside0.mk (irow_below IR_v.out HBc); replace KP := Aside0.mk (keeps_then KP.out HBc); clear lc1_0 lc1_1 lc1_2 lc1_3 lc1_4 lc1_5 lc1_6 lc1_7 lc1_8 lc1_9 lf1_0 lf1_1 lf1_2 lf1_3 lf1_4 lf1_5 lf1_6 lf1_7 lf1_8 lf1_9 lc2_0 lc2_1 lc2_2 lc2_3 lc2_4 lc2_5 lc2_6 lc2_7 lc2_8 lf2_0 lf2_1 lf2_2 lf2_3 lf2_4 lf2_5 lf2_6 lf2_7 lf2_8; replace BK_g := Aside0.mk (Ext.blk (Ext.none_ HBc) BK_g.out (fun e => e)); replace BK_go := Aside0.mk (Ext.blk (Ext.none_ HBc) BK_go.out (fun e => e)); replace MP_m := Aside0.mk (IsMap.ext MP_m.out (Ext.none_ HBc) (fun e => e)); replace XT := Aside0.mk (XT.out.stepB HBc); have BK_r : Aside0 (w1.heap[r]? = some (.cells #[.int .i64 0, .int .i64 0, .int .i64 0, .int .i64 0, .int .i64 0, .slice none 0 0, .int .i64 0, .int .i64 0, .int .i64 0] 39 (0, 0))) := ⟨hbox⟩; clear hbox HBc; refine cl10_ BK_g.out ?_; intro lc3_0 lc3_1 lc3_2 lc3_3 lc3_4 lc3_5 lc3_6 lc3_7 lc3_8 lc3_9 lf3_0 lf3_1 lf3_2 lf3_3 lf3_4 lf3_5 lf3_6 lf3_7 lf3_8 lf3_9; refine cl9_ BK_go.out ?_; intro lc4_0 lc4_1 lc4_2 lc4_3 lc4_4 lc4_5 lc4_6 lc4_7 lc4_8 lf4_0 lf4_1 lf4_2 lf4_3 lf4_4 lf4_5 lf4_6 lf4_7 lf4_8; refine cl9_ BK_r.out ?_; intro lc5_0 lc5_1 lc5_2 lc5_3 lc5_4 lc5_5 lc5_6 lc5_7 lc5_8 lf5_0 lf5_1 lf5_2 lf5_3 lf5_4 lf5_5 lf5_6 lf5_7 lf5_8) | ((with_reducible refine gate_store (p := 10) rfl ?_); refine store_event (w1 := ?_) rfl (p := 10) rfl rfl ?hr ?_; rotate_left; (case hr => go_simp; rfl); intro w2 hw_; obtain ⟨hput, HEc⟩ := put1 (cs' := #[.int .i64 wait, .int .i64 again, .int .i64 pause, .int .i64 now, .int .i64 tk, vl, .pointer (some ⟨go, 0, none⟩), .int .i64 (wrap64 (times + 1)), .int .i64 last, .map (some m)]) hw_ BK_g.out rfl; clear hw_; replace OB_l := Aside0.mk (ks_mv OB_l.out HEc NE_l_g.out); replace IR_v := Aside0.mk (irow_set IR_v.out HEc BK_g.out (by decide)); replace KP := Aside0.mk (keeps_set KP.out HEc BK_g.out (.inl rfl)); clear lc3_0 lc3_1 lc3_2 lc3_3 lc3_4 lc3_5 lc3_6 lc3_7 lc3_8 lc3_9 lf3_0 lf3_1 lf3_2 lf3_3 lf3_4 lf3_5 lf3_6 lf3_7 lf3_8 lf3_9 lc4_0 lc4_1 lc4_2 lc4_3 lc4_4 lc4_5 lc4_6 lc4_7 lc4_8 lf4_0 lf4_1 lf4_2 lf4_3 lf4_4 lf4_5 lf4_6 lf4_7 lf4_8 lc5_0 lc5_1 lc5_2 lc5_3 lc5_4 lc5_5 lc5_6 lc5_7 lc5_8 lf5_0 lf5_1 lf5_2 lf5_3 lf5_4 lf5_5 lf5_6 lf5_7 lf5_8; replace BK_go := Aside0.mk (Ext.blk HEc BK_go.out NE_go_g.out); replace BK_r := Aside0.mk (Ext.blk HEc BK_r.out NE_r_g.out); replace MP_m := Aside0.mk (IsMap.ext MP_m.out HEc NE_m_g.out); replace XT := Aside0.mk (XT.out.step HEc (F_g.out)); clear BK_g; have BK_g : Aside0 (w2.heap[g]? = some (.cells #[.int .i64 wait, .int .i64 again, .int .i64 pause, .int .i64 now, .int .i64 tk, vl, .pointer (some ⟨go, 0, none⟩), .int .i64 (wrap64 (times + 1)), .int .i64 last, .map (some m)] 73 (0, 0))) := ⟨hput⟩; clear hput HEc; refine cl10_ BK_g.out ?_; intro lc6_0 lc6_1 lc6_2 lc6_3 lc6_4 lc6_5 lc6_6 lc6_7 lc6_8 lc6_9 lf6_0 lf6_1 lf6_2 lf6_3 lf6_4 lf6_5 lf6_6 lf6_7 lf6_8 lf6_9; refine cl9_ BK_go.out ?_; intro lc7_0 lc7_1 lc7_2 lc7_3 lc7_4 lc7_5 lc7_6 lc7_7 lc7_8 lf7_0 lf7_1 lf7_2 lf7_3 lf7_4 lf7_5 lf7_6 lf7_7 lf7_8; refine cl9_ BK_r.out ?_; intro lc8_0 lc8_1 lc8_2 lc8_3 lc8_4 lc8_5 lc8_6 lc8_7 lc8_8 lf8_0 lf8_1 lf8_2 lf8_3 lf8_4 lf8_5 lf8_6 lf8_7 lf8_8) | ((with_reducible refine gate_store (p := 17) rfl ?_); refine store_event (w1 := ?_) rfl (p := 17) rfl rfl ?hr ?_; rotate_left; (case hr => go_simp; rfl); intro w3 hw_; obtain ⟨hput, HEc⟩ := put1 (cs' := #[.int .i64 wait, .int .i64 again, .int .i64 pause, .int .i64 now, .int .i64 tk, vl, .pointer (some ⟨go, 0, none⟩), .int .i64 (wrap64 (times + 1)), .int .i64 now, .map (some m)]) hw_ BK_g.out rfl; clear hw_; replace OB_l := Aside0.mk (ks_mv OB_l.out HEc NE_l_g.out); replace IR_v := Aside0.mk (irow_set IR_v.out HEc BK_g.out (by decide)); replace KP := Aside0.mk (keeps_set KP.out HEc BK_g.out (.inl rfl)); clear lc6_0 lc6_1 lc6_2 lc6_3 lc6_4 lc6_5 lc6_6 lc6_7 lc6_8 lc6_9 lf6_0 lf6_1 lf6_2 lf6_3 lf6_4 lf6_5 lf6_6 lf6_7 lf6_8 lf6_9 lc7_0 lc7_1 lc7_2 lc7_3 lc7_4 lc7_5 lc7_6 lc7_7 lc7_8 lf7_0 lf7_1 lf7_2 lf7_3 lf7_4 lf7_5 lf7_6 lf7_7 lf7_8 lc8_0 lc8_1 lc8_2 lc8_3 lc8_4 lc8_5 lc8_6 lc8_7 lc8_8 lf8_0 lf8_1 lf8_2 lf8_3 lf8_4 lf8_5 lf8_6 lf8_7 lf8_8; replace BK_go := Aside0.mk (Ext.blk HEc BK_go.out NE_go_g.out); replace BK_r := Aside0.mk (Ext.blk HEc BK_r.out NE_r_g.out); replace MP_m := Aside0.mk (IsMap.ext MP_m.out HEc NE_m_g.out); replace XT := Aside0.mk (XT.out.step HEc (F_g.out)); clear BK_g; have BK_g : Aside0 (w3.heap[g]? = some (.cells #[.int .i64 wait, .int .i64 again, .int .i64 pause, .int .i64 now, .int .i64 tk, vl, .pointer (some ⟨go, 0, none⟩), .int .i64 (wrap64 (times + 1)), .int .i64 now, .map (some m)] 73 (0, 0))) := ⟨hput⟩; clear hput HEc; refine cl10_ BK_g.out ?_; intro lc9_0 lc9_1 lc9_2 lc9_3 lc9_4 lc9_5 lc9_6 lc9_7 lc9_8 lc9_9 lf9_0 lf9_1 lf9_2 lf9_3 lf9_4 lf9_5 lf9_6 lf9_7 lf9_8 lf9_9; refine cl9_ BK_go.out ?_; intro lc10_0 lc10_1 lc10_2 lc10_3 lc10_4 lc10_5 lc10_6 lc10_7 lc10_8 lf10_0 lf10_1 lf10_2 lf10_3 lf10_4 lf10_5 lf10_6 lf10_7 lf10_8; refine cl9_ BK_r.out ?_; intro lc11_0 lc11_1 lc11_2 lc11_3 lc11_4 lc11_5 lc11_6 lc11_7 lc11_8 lf11_0 lf11_1 lf11_2 lf11_3 lf11_4 lf11_5 lf11_6 lf11_7 lf11_8) | ((with_reducible refine gate_dst (N := 3) rfl ?_); refine bx_ (N := 3) (cs := #[.int .i64 0, .int .i64 0, .int .i64 0, .int .i64 0, .int .i64 0, .slice none 0 0, .int .i64 0, .int .i64 0, .int .i64 0]) (t := 39) ?_; intro s hg w4 hbox HBc; have NE_l_s : Aside0 (∀ k, (vl).ownBlock = some k → k ≠ s) := ⟨fun k hk e => by have := OwnE.lt OB_l.out k hk; omega⟩; have NE_g_s : Aside0 (g ≠ s) := ⟨ne_born (blk_lt BK_g.out) hg⟩; have NE_s_g : Aside0 (s ≠ g) := ⟨fun e => NE_g_s.out e.symm⟩; have NE_go_s : Aside0 (go ≠ s) := ⟨ne_born (blk_lt BK_go.out) hg⟩; have NE_s_go : Aside0 (s ≠ go) := ⟨fun e => NE_go_s.out e.symm⟩; have NE_r_s : Aside0 (r ≠ s) := ⟨ne_born (blk_lt BK_r.out) hg⟩; have NE_s_r : Aside0 (s ≠ r) := ⟨fun e => NE_r_s.out e.symm⟩; have NE_m_s : Aside0 (m ≠ s) := ⟨ne_born (IsMap.lt MP_m.out) hg⟩; have NE_s_m : Aside0 (s ≠ m) := ⟨fun e => NE_m_s.out e.symm⟩; have F_s : Aside0 (∀ k, k = s → (fun k => k = g) k ∨ w.heap.size ≤ k) := ⟨fnew hg XT.out.size⟩; have RG_s : Aside0 (w.heap.size ≤ s) := ⟨Nat.le_trans XT.out.size (Nat.le_of_eq hg.symm)⟩; have BG_s : Aside0 (B ≤ s) := ⟨Nat.le_trans HBW.out RG_s.out⟩; clear hg; replace OB_l := Aside0.mk (ks_mv OB_l.out (Ext.none_ HBc) (fun _ _ e => e)); replace IR_v := Aside0.mk (irow_below IR_v.out HBc); replace KP := Aside0.mk (keeps_then KP.out HBc); clear lc9_0 lc9_1 lc9_2 lc9_3 lc9_4 lc9_5 lc9_6 lc9_7 lc9_8 lc9_9 lf9_0 lf9_1 lf9_2 lf9_3 lf9_4 lf9_5 lf9_6 lf9_7 lf9_8 lf9_9 lc10_0 lc10_1 lc10_2 lc10_3 lc10_4 lc10_5 lc10_6 lc10_7 lc10_8 lf10_0 lf10_1 lf10_2 lf10_3 lf10_4 lf10_5 lf10_6 lf10_7 lf10_8 lc11_0 lc11_1 lc11_2 lc11_3 lc11_4 lc11_5 lc11_6 lc11_7 lc11_8 lf11_0 lf11_1 lf11_2 lf11_3 lf11_4 lf11_5 lf11_6 lf11_7 lf11_8; replace BK_g := Aside0.mk (Ext.blk (Ext.none_ HBc) BK_g.out (fun e => e)); replace BK_go := Aside0.mk (Ext.blk (Ext.none_ HBc) BK_go.out (fun e => e)); replace BK_r := Aside0.mk (Ext.blk (Ext.none_ HBc) BK_r.out (fun e => e)); replace MP_m := Aside0.mk (IsMap.ext MP_m.out (Ext.none_ HBc) (fun e => e)); replace XT := Aside0.mk (XT.out.stepB HBc); have BK_s : Aside0 (w4.heap[s]? = some (.cells #[.int .i64 0, .int .i64 0, .int .i64 0, .int .i64 0, .int .i64 0, .slice none 0 0, .int .i64 0, .int .i64 0, .int .i64 0] 39 (0, 0))) := ⟨hbox⟩; clear hbox HBc; refine cl10_ BK_g.out ?_; intro lc12_0 lc12_1 lc12_2 lc12_3 lc12_4 lc12_5 lc12_6 lc12_7 lc12_8 lc12_9 lf12_0 lf12_1 lf12_2 lf12_3 lf12_4 lf12_5 lf12_6 lf12_7 lf12_8 lf12_9; refine cl9_ BK_go.out ?_; intro lc13_0 lc13_1 lc13_2 lc13_3 lc13_4 lc13_5 lc13_6 lc13_7 lc13_8 lf13_0 lf13_1 lf13_2 lf13_3 lf13_4 lf13_5 lf13_6 lf13_7 lf13_8; refine cl9_ BK_r.out ?_; intro lc14_0 lc14_1 lc14_2 lc14_3 lc14_4 lc14_5 lc14_6 lc14_7 lc14_8 lf14_0 lf14_1 lf14_2 lf14_3 lf14_4 lf14_5 lf14_6 lf14_7 lf14_8; refine cl9_ BK_s.out ?_; intro lc15_0 lc15_1 lc15_2 lc15_3 lc15_4 lc15_5 lc15_6 lc15_7 lc15_8 lf15_0 lf15_1 lf15_2 lf15_3 lf15_4 lf15_5 lf15_6 lf15_7 lf15_8) | ((with_reducible refine gate_store (p := 3) rfl ?_); refine store_event (w1 := ?_) rfl (p := 3) rfl rfl ?hr ?_; rotate_left; (case hr => go_simp; rfl); intro w5 hw_; have hput : w5.heap[s]? = some (.cells #[.int .i64 x.t, .int .i64 x.u, .int .i64 x.f, .int .i64 x.a, .int .i64 x.c, .slice x.A x.l x.k, .int .i64 x.o, .int .i64 x.n, .int .i64 x.r] 39 (0, 0)) := (by rw [hw_]; refine blk_put (cs := #[.int .i64 x.t, .int .i64 x.u, .int .i64 x.f, .int .i64 x.a, .int .i64 x.c, .slice x.A x.l x.k, .int .i64 x.o, .int .i64 x.n, .int .i64 0]) ?_ 8 _ rfl; refine blk_put (cs := #[.int .i64 x.t, .int .i64 x.u, .int .i64 x.f, .int .i64 x.a, .int .i64 x.c, .slice x.A x.l x.k, .int .i64 x.o, .int .i64 0, .int .i64 0]) ?_ 7 _ rfl; refine blk_put (cs := #[.int .i64 x.t, .int .i64 x.u, .int .i64 x.f, .int .i64 x.a, .int .i64 x.c, .slice x.A x.l x.k, .int .i64 0, .int .i64 0, .int .i64 0]) ?_ 6 _ rfl; refine blk_put (cs := #[.int .i64 x.t, .int .i64 x.u, .int .i64 x.f, .int .i64 x.a, .int .i64 x.c, .slice none 0 0, .int .i64 0, .int .i64 0, .int .i64 0]) ?_ 5 _ rfl; refine blk_put (cs := #[.int .i64 x.t, .int .i64 x.u, .int .i64 x.f, .int .i64 x.a, .int .i64 0, .slice none 0 0, .int .i64 0, .int .i64 0, .int .i64 0]) ?_ 4 _ rfl; refine blk_put (cs := #[.int .i64 x.t, .int .i64 x.u, .int .i64 x.f, .int .i64 0, .int .i64 0, .slice none 0 0, .int .i64 0, .int .i64 0, .int .i64 0]) ?_ 3 _ rfl; refine blk_put (cs := #[.int .i64 x.t, .int .i64 x.u, .int .i64 0, .int .i64 0, .int .i64 0, .slice none 0 0, .int .i64 0, .int .i64 0, .int .i64 0]) ?_ 2 _ rfl; refine blk_put (cs := #[.int .i64 x.t, .int .i64 0, .int .i64 0, .int .i64 0, .int .i64 0, .slice none 0 0, .int .i64 0, .int .i64 0, .int .i64 0]) ?_ 1 _ rfl; refine blk_put (cs := #[.int .i64 0, .int .i64 0, .int .i64 0, .int .i64 0, .int .i64 0, .slice none 0 0, .int .i64 0, .int .i64 0, .int .i64 0]) ?_ 0 _ rfl; exact BK_s.out); have HEc : Ext (fun k => k = s) w4 w5 := (by rw [hw_]; exact ((((((((((Ext.refl _ _).setg _).setg _).setg _).setg _).setg _).setg _).setg _).setg _).setg _)); clear hw_; replace OB_l := Aside0.mk (ks_mv OB_l.out HEc NE_l_s.out); replace IR_v := Aside0.mk (irow_set IR_v.out HEc BK_s.out (by decide)); replace KP := Aside0.mk (keeps_set KP.out HEc BK_s.out (.inr (.inl rfl))); clear lc12_0 lc12_1 lc12_2 lc12_3 lc12_4 lc12_5 lc12_6 lc12_7 lc12_8 lc12_9 lf12_0 lf12_1 lf12_2 lf12_3 lf12_4 lf12_5 lf12_6 lf12_7 lf12_8 lf12_9 lc13_0 lc13_1 lc13_2 lc13_3 lc13_4 lc13_5 lc13_6 lc13_7 lc13_8 lf13_0 lf13_1 lf13_2 lf13_3 lf13_4 lf13_5 lf13_6 lf13_7 lf13_8 lc14_0 lc14_1 lc14_2 lc14_3 lc14_4 lc14_5 lc14_6 lc14_7 lc14_8 lf14_0 lf14_1 lf14_2 lf14_3 lf14_4 lf14_5 lf14_6 lf14_7 lf14_8 lc15_0 lc15_1 lc15_2 lc15_3 lc15_4 lc15_5 lc15_6 lc15_7 lc15_8 lf15_0 lf15_1 lf15_2 lf15_3 lf15_4 lf15_5 lf15_6 lf15_7 lf15_8; replace BK_g := Aside0.mk (Ext.blk HEc BK_g.out NE_g_s.out); replace BK_go := Aside0.mk (Ext.blk HEc BK_go.out NE_go_s.out); replace BK_r := Aside0.mk (Ext.blk HEc BK_r.out NE_r_s.out); replace MP_m := Aside0.mk (IsMap.ext MP_m.out HEc NE_m_s.out); replace XT := Aside0.mk (XT.out.step HEc (F_s.out)); clear BK_s; have BK_s : Aside0 (w5.heap[s]? = some (.cells #[.int .i64 x.t, .int .i64 x.u, .int .i64 x.f, .int .i64 x.a, .int .i64 x.c, .slice x.A x.l x.k, .int .i64 x.o, .int .i64 x.n, .int .i64 x.r] 39 (0, 0))) := ⟨hput⟩; clear hput HEc; refine cl10_ BK_g.out ?_; intro lc16_0 lc16_1 lc16_2 lc16_3 lc16_4 lc16_5 lc16_6 lc16_7 lc16_8 lc16_9 lf16_0 lf16_1 lf16_2 lf16_3 lf16_4 lf16_5 lf16_6 lf16_7 lf16_8 lf16_9; refine cl9_ BK_go.out ?_; intro lc17_0 lc17_1 lc17_2 lc17_3 lc17_4 lc17_5 lc17_6 lc17_7 lc17_8 lf17_0 lf17_1 lf17_2 lf17_3 lf17_4 lf17_5 lf17_6 lf17_7 lf17_8; refine cl9_ BK_r.out ?_; intro lc18_0 lc18_1 lc18_2 lc18_3 lc18_4 lc18_5 lc18_6 lc18_7 lc18_8 lf18_0 lf18_1 lf18_2 lf18_3 lf18_4 lf18_5 lf18_6 lf18_7 lf18_8; refine cl9_ BK_s.out ?_; intro lc19_0 lc19_1 lc19_2 lc19_3 lc19_4 lc19_5 lc19_6 lc19_7 lc19_8 lf19_0 lf19_1 lf19_2 lf19_3 lf19_4 lf19_5 lf19_6 lf19_7 lf19_8) | (go_at_call 30; refine (clone_c IR_v.out HLV.out).mono ?_; rintro e w6 ⟨A', k', rfl, hkc, hin, HBc⟩; have HKC := Aside0.mk hkc; clear hkc; replace OB_l := Aside0.mk (ks_mv OB_l.out (Ext.none_ HBc) (fun _ _ e => e)); replace IR_v := Aside0.mk (irow_below IR_v.out HBc); replace KP := Aside0.mk (keeps_then KP.out HBc); clear lc16_0 lc16_1 lc16_2 lc16_3 lc16_4 lc16_5 lc16_6 lc16_7 lc16_8 lc16_9 lf16_0 lf16_1 lf16_2 lf16_3 lf16_4 lf16_5 lf16_6 lf16_7 lf16_8 lf16_9 lc17_0 lc17_1 lc17_2 lc17_3 lc17_4 lc17_5 lc17_6 lc17_7 lc17_8 lf17_0 lf17_1 lf17_2 lf17_3 lf17_4 lf17_5 lf17_6 lf17_7 lf17_8 lc18_0 lc18_1 lc18_2 lc18_3 lc18_4 lc18_5 lc18_6 lc18_7 lc18_8 lf18_0 lf18_1 lf18_2 lf18_3 lf18_4 lf18_5 lf18_6 lf18_7 lf18_8 lc19_0 lc19_1 lc19_2 lc19_3 lc19_4 lc19_5 lc19_6 lc19_7 lc19_8 lf19_0 lf19_1 lf19_2 lf19_3 lf19_4 lf19_5 lf19_6 lf19_7 lf19_8; replace BK_g := Aside0.mk (Ext.blk (Ext.none_ HBc) BK_g.out (fun e => e)); replace BK_go := Aside0.mk (Ext.blk (Ext.none_ HBc) BK_go.out (fun e => e)); replace BK_r := Aside0.mk (Ext.blk (Ext.none_ HBc) BK_r.out (fun e => e)); replace BK_s := Aside0.mk (Ext.blk (Ext.none_ HBc) BK_s.out (fun e => e)); replace MP_m := Aside0.mk (IsMap.ext MP_m.out (Ext.none_ HBc) (fun e => e)); replace XT := Aside0.mk (XT.out.stepB HBc); have IR_n : Aside0 (IRow w6 (A') (x.l) (vs)) := ⟨hin⟩; clear hin HBc; refine cl10_ BK_g.out ?_; intro lc20_0 lc20_1 lc20_2 lc20_3 lc20_4 lc20_5 lc20_6 lc20_7 lc20_8 lc20_9 lf20_0 lf20_1 lf20_2 lf20_3 lf20_4 lf20_5 lf20_6 lf20_7 lf20_8 lf20_9; refine cl9_ BK_go.out ?_; intro lc21_0 lc21_1 lc21_2 lc21_3 lc21_4 lc21_5 lc21_6 lc21_7 lc21_8 lf21_0 lf21_1 lf21_2 lf21_3 lf21_4 lf21_5 lf21_6 lf21_7 lf21_8; refine cl9_ BK_r.out ?_; intro lc22_0 lc22_1 lc22_2 lc22_3 lc22_4 lc22_5 lc22_6 lc22_7 lc22_8 lf22_0 lf22_1 lf22_2 lf22_3 lf22_4 lf22_5 lf22_6 lf22_7 lf22_8; refine cl9_ BK_s.out ?_; intro lc23_0 lc23_1 lc23_2 lc23_3 lc23_4 lc23_5 lc23_6 lc23_7 lc23_8 lf23_0 lf23_1 lf23_2 lf23_3 lf23_4 lf23_5 lf23_6 lf23_7 lf23_8) | ((with_reducible refine gate_store (p := 29) rfl ?_); refine store_event (w1 := ?_) rfl (p := 29) rfl rfl ?hr ?_; rotate_left; (case hr => go_simp; rfl); intro w7 hw_; obtain ⟨hput, HEc⟩ := put1 (cs' := #[.int .i64 x.t, .int .i64 x.u, .int .i64 x.f, .int .i64 x.a, .int .i64 x.c, .slice A' x.l k', .int .i64 x.o, .int .i64 x.n, .int .i64 x.r]) hw_ BK_s.out rfl; clear hw_; replace OB_l := Aside0.mk (ks_mv OB_l.out HEc NE_l_s.out); replace IR_v := Aside0.mk (irow_set IR_v.out HEc BK_s.out (by decide)); replace IR_n := Aside0.mk (irow_set IR_n.out HEc BK_s.out (by decide)); replace KP := Aside0.mk (keeps_set KP.out HEc BK_s.out (.inr (.inl rfl))); clear lc20_0 lc20_1 lc20_2 lc20_3 lc20_4 lc20_5 lc20_6 lc20_7 lc20_8 lc20_9 lf20_0 lf20_1 lf20_2 lf20_3 lf20_4 lf20_5 lf20_6 lf20_7 lf20_8 lf20_9 lc21_0 lc21_1 lc21_2 lc21_3 lc21_4 lc21_5 lc21_6 lc21_7 lc21_8 lf21_0 lf21_1 lf21_2 lf21_3 lf21_4 lf21_5 lf21_6 lf21_7 lf21_8 lc22_0 lc22_1 lc22_2 lc22_3 lc22_4 lc22_5 lc22_6 lc22_7 lc22_8 lf22_0 lf22_1 lf22_2 lf22_3 lf22_4 lf22_5 lf22_6 lf22_7 lf22_8 lc23_0 lc23_1 lc23_2 lc23_3 lc23_4 lc23_5 lc23_6 lc23_7 lc23_8 lf23_0 lf23_1 lf23_2 lf23_3 lf23_4 lf23_5 lf23_6 lf23_7 lf23_8; replace BK_g := Aside0.mk (Ext.blk HEc BK_g.out NE_g_s.out); replace BK_go := Aside0.mk (Ext.blk HEc BK_go.out NE_go_s.out); replace BK_r := Aside0.mk (Ext.blk HEc BK_r.out NE_r_s.out); replace MP_m := Aside0.mk (IsMap.ext MP_m.out HEc NE_m_s.out); replace XT := Aside0.mk (XT.out.step HEc (F_s.out)); clear BK_s; have BK_s : Aside0 (w7.heap[s]? = some (.cells #[.int .i64 x.t, .int .i64 x.u, .int .i64 x.f, .int .i64 x.a, .int .i64 x.c, .slice A' x.l k', .int .i64 x.o, .int .i64 x.n, .int .i64 x.r] 39 (0, 0))) := ⟨hput⟩; clear hput HEc; refine cl10_ BK_g.out ?_; intro lc24_0 lc24_1 lc24_2 lc24_3 lc24_4 lc24_5 lc24_6 lc24_7 lc24_8 lc24_9 lf24_0 lf24_1 lf24_2 lf24_3 lf24_4 lf24_5 lf24_6 lf24_7 lf24_8 lf24_9; refine cl9_ BK_go.out ?_; intro lc25_0 lc25_1 lc25_2 lc25_3 lc25_4 lc25_5 lc25_6 lc25_7 lc25_8 lf25_0 lf25_1 lf25_2 lf25_3 lf25_4 lf25_5 lf25_6 lf25_7 lf25_8; refine cl9_ BK_r.out ?_; intro lc26_0 lc26_1 lc26_2 lc26_3 lc26_4 lc26_5 lc26_6 lc26_7 lc26_8 lf26_0 lf26_1 lf26_2 lf26_3 lf26_4 lf26_5 lf26_6 lf26_7 lf26_8; refine cl9_ BK_s.out ?_; intro lc27_0 lc27_1 lc27_2 lc27_3 lc27_4 lc27_5 lc27_6 lc27_7 lc27_8 lf27_0 lf27_1 lf27_2 lf27_3 lf27_4 lf27_5 lf27_6 lf27_7 lf27_8) | ((with_reducible refine gate_store (p := 2) rfl ?_); refine store_event (w1 := ?_) rfl (p := 2) rfl rfl ?hr ?_; rotate_left; (case hr => go_simp; rfl); intro w8 hw_; have hput : w8.heap[r]? = some (.cells #[.int .i64 x.t, .int .i64 x.u, .int .i64 x.f, .int .i64 x.a, .int .i64 x.c, .slice A' x.l k', .int .i64 x.o, .int .i64 x.n, .int .i64 x.r] 39 (0, 0)) := (by rw [hw_]; refine blk_put (cs := #[.int .i64 x.t, .int .i64 x.u, .int .i64 x.f, .int .i64 x.a, .int .i64 x.c, .slice A' x.l k', .int .i64 x.o, .int .i64 x.n, .int .i64 0]) ?_ 8 _ rfl; refine blk_put (cs := #[.int .i64 x.t, .int .i64 x.u, .int .i64 x.f, .int .i64 x.a, .int .i64 x.c, .slice A' x.l k', .int .i64 x.o, .int .i64 0, .int .i64 0]) ?_ 7 _ rfl; refine blk_put (cs := #[.int .i64 x.t, .int .i64 x.u, .int .i64 x.f, .int .i64 x.a, .int .i64 x.c, .slice A' x.l k', .int .i64 0, .int .i64 0, .int .i64 0]) ?_ 6 _ rfl; refine blk_put (cs := #[.int .i64 x.t, .int .i64 x.u, .int .i64 x.f, .int .i64 x.a, .int .i64 x.c, .slice none 0 0, .int .i64 0, .int .i64 0, .int .i64 0]) ?_ 5 _ rfl; refine blk_put (cs := #[.int .i64 x.t, .int .i64 x.u, .int .i64 x.f, .int .i64 x.a, .int .i64 0, .slice none 0 0, .int .i64 0, .int .i64 0, .int .i64 0]) ?_ 4 _ rfl; refine blk_put (cs := #[.int .i64 x.t, .int .i64 x.u, .int .i64 x.f, .int .i64 0, .int .i64 0, .slice none 0 0, .int .i64 0, .int .i64 0, .int .i64 0]) ?_ 3 _ rfl; refine blk_put (cs := #[.int .i64 x.t, .int .i64 x.u, .int .i64 0, .int .i64 0, .int .i64 0, .slice none 0 0, .int .i64 0, .int .i64 0, .int .i64 0]) ?_ 2 _ rfl; refine blk_put (cs := #[.int .i64 x.t, .int .i64 0, .int .i64 0, .int .i64 0, .int .i64 0, .slice none 0 0, .int .i64 0, .int .i64 0, .int .i64 0]) ?_ 1 _ rfl; refine blk_put (cs := #[.int .i64 0, .int .i64 0, .int .i64 0, .int .i64 0, .int .i64 0, .slice none 0 0, .int .i64 0, .int .i64 0, .int .i64 0]) ?_ 0 _ rfl; exact BK_r.out); have HEc : Ext (fun k => k = r) w7 w8 := (by rw [hw_]; exact ((((((((((Ext.refl _ _).setg _).setg _).setg _).setg _).setg _).setg _).setg _).setg _).setg _)); clear hw_; replace OB_l := Aside0.mk (ks_mv OB_l.out HEc NE_l_r.out); replace IR_v := Aside0.mk (irow_set IR_v.out HEc BK_r.out (by decide)); replace IR_n := Aside0.mk (irow_set IR_n.out HEc BK_r.out (by decide)); replace KP := Aside0.mk (keeps_set KP.out HEc BK_r.out (.inr (.inl rfl))); clear lc24_0 lc24_1 lc24_2 lc24_3 lc24_4 lc24_5 lc24_6 lc24_7 lc24_8 lc24_9 lf24_0 lf24_1 lf24_2 lf24_3 lf24_4 lf24_5 lf24_6 lf24_7 lf24_8 lf24_9 lc25_0 lc25_1 lc25_2 lc25_3 lc25_4 lc25_5 lc25_6 lc25_7 lc25_8 lf25_0 lf25_1 lf25_2 lf25_3 lf25_4 lf25_5 lf25_6 lf25_7 lf25_8 lc26_0 lc26_1 lc26_2 lc26_3 lc26_4 lc26_5 lc26_6 lc26_7 lc26_8 lf26_0 lf26_1 lf26_2 lf26_3 lf26_4 lf26_5 lf26_6 lf26_7 lf26_8 lc27_0 lc27_1 lc27_2 lc27_3 lc27_4 lc27_5 lc27_6 lc27_7 lc27_8 lf27_0 lf27_1 lf27_2 lf27_3 lf27_4 lf27_5 lf27_6 lf27_7 lf27_8; replace BK_g := Aside0.mk (Ext.blk HEc BK_g.out NE_g_r.out); replace BK_go := Aside0.mk (Ext.blk HEc BK_go.out NE_go_r.out); replace BK_s := Aside0.mk (Ext.blk HEc BK_s.out NE_s_r.out); replace MP_m := Aside0.mk (IsMap.ext MP_m.out HEc NE_m_r.out); replace XT := Aside0.mk (XT.out.step HEc (F_r.out)); clear BK_r; have BK_r : Aside0 (w8.heap[r]? = some (.cells #[.int .i64 x.t, .int .i64 x.u, .int .i64 x.f, .int .i64 x.a, .int .i64 x.c, .slice A' x.l k', .int .i64 x.o, .int .i64 x.n, .int .i64 x.r] 39 (0, 0))) := ⟨hput⟩; clear hput HEc; refine cl10_ BK_g.out ?_; intro lc28_0 lc28_1 lc28_2 lc28_3 lc28_4 lc28_5 lc28_6 lc28_7 lc28_8 lc28_9 lf28_0 lf28_1 lf28_2 lf28_3 lf28_4 lf28_5 lf28_6 lf28_7 lf28_8 lf28_9; refine cl9_ BK_go.out ?_; intro lc29_0 lc29_1 lc29_2 lc29_3 lc29_4 lc29_5 lc29_6 lc29_7 lc29_8 lf29_0 lf29_1 lf29_2 lf29_3 lf29_4 lf29_5 lf29_6 lf29_7 lf29_8; refine cl9_ BK_r.out ?_; intro lc30_0 lc30_1 lc30_2 lc30_3 lc30_4 lc30_5 lc30_6 lc30_7 lc30_8 lf30_0 lf30_1 lf30_2 lf30_3 lf30_4 lf30_5 lf30_6 lf30_7 lf30_8; refine cl9_ BK_s.out ?_; intro lc31_0 lc31_1 lc31_2 lc31_3 lc31_4 lc31_5 lc31_6 lc31_7 lc31_8 lf31_0 lf31_1 lf31_2 lf31_3 lf31_4 lf31_5 lf31_6 lf31_7 lf31_8))
 refine bodyPost_ret (results_cell_row rfl _ _ r 39 #[.int .i64 x.t, .int .i64 x.u, .int .i64 x.f, .int .i64 x.a, .int .i64 x.c, .slice A' x.l k', .int .i64 x.o, .int .i64 x.n, .int .i64 x.r] (0, 0) _ rfl BK_r.out Try.underlying39 rfl (by kernel_rfl)) rfl ?_
 exact ⟨A', k', rfl, HKC.out, IR_n.out, ⟨⟨_, _, BK_g.out, OB_l.out, ⟨go, rfl, BK_go.out, BGO.out, NE_l_go.out⟩⟩, ⟨_, _, MP_m.out, HF.out⟩⟩, XT.out, KP.out⟩
set_option maxHeartbeats 4000000 in
set_option maxRecDepth 100000 in
theorem count_none {B : Nat} {w : World} {g m : Nat} {wait again pause now tk times last : Int} {line : List (SV)} {rest : Int → Int} (h : IsM B w g m ⟨wait, again, pause, now, tk, line, none, times, last, rest⟩) (hB : B ≤ w.heap.size) (hl : line.length ≤ 1000) : Calls Try.prog 16 #[.pointer (some ⟨g, 0, none⟩)] w fun e w' => e = .returned (.int .i64 line.length) ∧ w = w' := by
 have HBW := Aside0.mk hB
 obtain ⟨⟨vl, vo, hb, hl, ho⟩, ⟨f, n, hm, hf⟩⟩ := h
 obtain rfl : vo = .pointer none := ho
 have BK_g : Aside0 (w.heap[g]? = some (.cells #[.int .i64 wait, .int .i64 again, .int .i64 pause, .int .i64 now, .int .i64 tk, vl, .pointer none, .int .i64 times, .int .i64 last, .map (some m)] 73 (0, 0))) := ⟨hb⟩
 have OB_l : Aside0 (OwnE ks (fun _ => False) 39 B w vl (line)) := ⟨hl⟩
 have MP_m := Aside0.mk hm; have HF := Aside0.mk hf
 have NE_l_g : Aside0 (∀ k, (vl).ownBlock = some k → k ≠ g) := ⟨ks_ne hl hb (by decide)⟩; have NE_l_m : Aside0 (∀ k, (vl).ownBlock = some k → k ≠ m) := ⟨ks_nm hl hm⟩; have NE_g_m : Aside0 (g ≠ m) := ⟨cell_nm hb hm⟩; have NE_m_g : Aside0 (m ≠ g) := ⟨fun e => NE_g_m.out e.symm⟩; have F_g : Aside0 (∀ k, k = g → Mm B g m k ∨ w.heap.size ≤ k) := ⟨fun k e => .inl (.inl e)⟩; have F_m : Aside0 (∀ k, k = m → Mm B g m k ∨ w.heap.size ≤ k) := ⟨fun k e => .inl (.inr (.inl e))⟩
 clear hb hl hm hf hB
 have XT : Aside0 (Ext (Mm B g m) w w) := ⟨Ext.refl _ _⟩
 refine cl10_ BK_g.out ?_; intro lc1_0 lc1_1 lc1_2 lc1_3 lc1_4 lc1_5 lc1_6 lc1_7 lc1_8 lc1_9 lf1_0 lf1_1 lf1_2 lf1_3 lf1_4 lf1_5 lf1_6 lf1_7 lf1_8 lf1_9
 skip
 obtain ⟨A, c, rfl⟩ := OB_l.out.slice
 go_enter Try.func16, Try.ntmps16
 go_wp2
 go_ret
 exact ⟨rfl, rfl⟩
set_option maxHeartbeats 4000000 in
set_option maxRecDepth 100000 in
theorem count_some {B : Nat} {w : World} {g m : Nat} {wait again pause now tk times last : Int} {line : List (SV)} {rest : Int → Int} {x : SV} (h : IsM B w g m ⟨wait, again, pause, now, tk, line, some x, times, last, rest⟩) (hB : B ≤ w.heap.size) (hl : line.length ≤ 1000) : Calls Try.prog 16 #[.pointer (some ⟨g, 0, none⟩)] w fun e w' => e = .returned (.int .i64 ((line.length : Int) + 1)) ∧ w = w' := by
 have HBW := Aside0.mk hB
 obtain ⟨⟨vl, vo, hb, hl, ho⟩, ⟨f, n, hm, hf⟩⟩ := h
 obtain ⟨go, rfl, hgo, bgo, nlo⟩ := ho
 have BK_g : Aside0 (w.heap[g]? = some (.cells #[.int .i64 wait, .int .i64 again, .int .i64 pause, .int .i64 now, .int .i64 tk, vl, .pointer (some ⟨go, 0, none⟩), .int .i64 times, .int .i64 last, .map (some m)] 73 (0, 0))) := ⟨hb⟩
 have OB_l : Aside0 (OwnE ks (fun _ => False) 39 B w vl (line)) := ⟨hl⟩
 have MP_m := Aside0.mk hm; have HF := Aside0.mk hf
 have NE_l_g : Aside0 (∀ k, (vl).ownBlock = some k → k ≠ g) := ⟨ks_ne hl hb (by decide)⟩; have NE_l_m : Aside0 (∀ k, (vl).ownBlock = some k → k ≠ m) := ⟨ks_nm hl hm⟩; have NE_g_m : Aside0 (g ≠ m) := ⟨cell_nm hb hm⟩; have NE_m_g : Aside0 (m ≠ g) := ⟨fun e => NE_g_m.out e.symm⟩; have F_g : Aside0 (∀ k, k = g → Mm B g m k ∨ w.heap.size ≤ k) := ⟨fun k e => .inl (.inl e)⟩; have F_m : Aside0 (∀ k, k = m → Mm B g m k ∨ w.heap.size ≤ k) := ⟨fun k e => .inl (.inr (.inl e))⟩
 have BK_go : Aside0 (w.heap[go]? = some (.cells #[.int .i64 x.t, .int .i64 x.u, .int .i64 x.f, .int .i64 x.a, .int .i64 x.c, .slice x.A x.l x.k, .int .i64 x.o, .int .i64 x.n, .int .i64 x.r] 39 (0, 0))) := ⟨hgo⟩; have BGO := Aside0.mk bgo; have NE_l_go : Aside0 (∀ k, (vl).ownBlock = some k → k ≠ go) := ⟨nlo⟩; have NE_go_g : Aside0 (go ≠ g) := ⟨blk_ne hgo hb (by decide)⟩; have NE_g_go : Aside0 (g ≠ go) := ⟨fun e => NE_go_g.out e.symm⟩; have NE_go_m : Aside0 (go ≠ m) := ⟨cell_nm hgo hm⟩; have NE_m_go : Aside0 (m ≠ go) := ⟨fun e => NE_go_m.out e.symm⟩; clear hgo bgo nlo
 clear hb hl hm hf hB
 have XT : Aside0 (Ext (Mm B g m) w w) := ⟨Ext.refl _ _⟩
 refine cl10_ BK_g.out ?_; intro lc1_0 lc1_1 lc1_2 lc1_3 lc1_4 lc1_5 lc1_6 lc1_7 lc1_8 lc1_9 lf1_0 lf1_1 lf1_2 lf1_3 lf1_4 lf1_5 lf1_6 lf1_7 lf1_8 lf1_9
 refine cl9_ BK_go.out ?_; intro lc2_0 lc2_1 lc2_2 lc2_3 lc2_4 lc2_5 lc2_6 lc2_7 lc2_8 lf2_0 lf2_1 lf2_2 lf2_3 lf2_4 lf2_5 lf2_6 lf2_7 lf2_8
 have hw : wrap64 ((line.length : Int) + 1) = (line.length : Int) + 1 := by unfold wrap64; omega
 obtain ⟨A, c, rfl⟩ := OB_l.out.slice
 go_enter Try.func16, Try.ntmps16
 go_wp2
 go_ret
 exact ⟨by first | rfl | rw [hw], rfl⟩
set_option maxHeartbeats 4000000 in
set_option maxRecDepth 100000 in
theorem new_c (w : World) (wait again rest : Int) (h1 : 1 ≤ wait) (h2 : 0 ≤ again) (h3 : again ≤ 16) (h4 : 0 ≤ rest) : Calls Try.prog 8 #[.int .i64 wait, .int .i64 again, .int .i64 rest] w fun e w' => ∃ g m, e = .returned (.tuple #[.pointer (some ⟨g, 0, none⟩), .int .i64 0]) ∧ w.heap.size ≤ g ∧ w.heap.size ≤ m ∧ g < w'.heap.size ∧ m < w'.heap.size ∧ (∀ B, IsM B w' g m ⟨wait, again, rest, 0, 0, [], none, 0, 0, fun _ => 0⟩) ∧ Below w.heap.size w w' := by
 have s1 : decide (wait < 1) = false := decide_eq_false (by omega)
 have s2 : decide (again < 0) = false := decide_eq_false (by omega)
 have s3 : decide (16 < again) = false := decide_eq_false (by omega)
 have s4 : decide (rest < 0) = false := decide_eq_false (by omega)
 have hmm := @run_makeMap Try.prog
 clear h1 h2 h3 h4
 go_enter Try.func8, Try.ntmps8
 go_wp2
 go_ret2
 refine ⟨w.heap.size + 1, w.heap.size, rfl, by omega, Nat.le_refl _, by simp, by simp; omega, fun B => ⟨⟨.slice none 0 0, .pointer none, ?_, OwnE.nil _ _ _ _ _, rfl⟩, ⟨fun _ => none, 0, ?_, fun _ => rfl⟩⟩, below_alloc (below_alloc (Below.refl _ _) _) _⟩
 ·exact new_blk (by simp)
 ·exact (IsMap.new w).ext (Ext.none_ (below_alloc (Below.refl _ _) _)) (fun e => e)
end Go.Proofs.Ytlalpooiegganaa.Msg
end

section
namespace Go.Proofs.Ytlalpooiegganaa.Chk
open Go.RowKit Go.Proofs.YtlalpooiegganaaW.PrintWords Go.Proofs.YtlalpooiegganaaW.PrintLast Go.Proofs.YtlalpooiegganaaW.PrintMore Go.Proofs.Ytlalpooiegganaa.Core Go.Proofs.Ytlalpooiegganaa.Wk
set_option linter.unusedVariables false
set_option linter.unusedSimpArgs false
def wB (lo hi n : Int) : Bool := decide (lo ≤ n ∧ n ≤ hi)
def spB (a n : Int) : Bool := decide (0 ≤ a ∧ a ≤ 65535 ∧ a + n ≤ 65536)
def lowB (m : Int) (l : List Int) : Bool := decide (∀ x ∈ l, 0 ≤ x ∧ x ≤ m)
def smB (lo hi m : Int) (l : List Int) : Bool := wB lo hi l.length && lowB m l
theorem wB_yes {lo hi n : Int} (h0 : lo ≤ n) (h1 : n ≤ hi) : wB lo hi n = true := decide_eq_true ⟨h0, h1⟩
theorem wB_no {lo hi n : Int} (h : ¬ (lo ≤ n ∧ n ≤ hi)) : wB lo hi n = false := decide_eq_false h
theorem wB_iff {lo hi n : Int} : wB lo hi n = true ↔ lo ≤ n ∧ n ≤ hi := decide_eq_true_iff
theorem smB_len {lo hi m : Int} {l : List Int} (h : smB lo hi m l = true) : (l.length : Int) ≤ hi := by
 unfold smB at h
 rw [Bool.and_eq_true] at h
 exact (wB_iff.1 h.1).2
theorem low_nil (m : Int) : lowB m [] = true := decide_eq_true (fun x hx => by cases hx)
theorem low_take {m : Int} {l : List Int} {k : Nat} (hk : k < l.length) (h : lowB m (l.take k) = true) (hx : wB 0 m (l.getD k 0) = true) : lowB m (l.take (k + 1)) = true := by
 unfold lowB at h ⊢
 rw [decide_eq_true_eq] at h ⊢
 intro x hx'
 rw [List.take_succ_eq_append_getElem hk, List.mem_append] at hx'
 rcases hx' with hx' | hx'
 ·exact h x hx'
 ·have e : x = l[k] := by simpa using hx'
  rw [e]
  rw [List.getD_eq_getElem?_getD, List.getElem?_eq_getElem hk] at hx
  exact wB_iff.1 hx
theorem low_bad {m : Int} {l : List Int} {k : Nat} (hk : k < l.length) (hx : wB 0 m (l.getD k 0) = false) : lowB m l = false := by
 unfold lowB
 rw [decide_eq_false_iff_not]
 intro h
 have h1 := h l[k] (List.getElem_mem hk)
 rw [List.getD_eq_getElem?_getD, List.getElem?_eq_getElem hk] at hx
 have := wB_yes (lo := 0) (hi := m) h1.1 h1.2
 rw [Option.getD_some, this] at hx
 cases hx
set_option maxHeartbeats 4000000 in
set_option maxRecDepth 100000 in
theorem within_c (n lo hi : Int) (w : World) : Calls Try.prog 43 #[.int .i64 n, .int .i64 lo, .int .i64 hi] w fun e w' => e = .returned (.bool (wB lo hi n)) ∧ w = w' := by
 by_cases h0 : lo ≤ n
 ·have t0 : decide (lo ≤ n) = true := decide_eq_true h0
  by_cases h1 : n ≤ hi
  ·have t1 : decide (n ≤ hi) = true := decide_eq_true h1
   rw [wB_yes h0 h1]; clear h0 h1
   go_enter Try.func43, Try.ntmps43
   go_wp2
   go_ret
   exact ⟨rfl, rfl⟩
  ·have t1 : decide (n ≤ hi) = false := decide_eq_false h1
   rw [wB_no (fun a => h1 a.2)]; clear h0 h1
   go_enter Try.func43, Try.ntmps43
   go_wp2
   go_ret
   exact ⟨rfl, rfl⟩
 ·have t0 : decide (lo ≤ n) = false := decide_eq_false h0
  rw [wB_no (fun a => h0 a.1)]; clear h0
  go_enter Try.func43, Try.ntmps43
  go_wp2
  go_ret
  exact ⟨rfl, rfl⟩
set_option maxHeartbeats 4000000 in
set_option maxRecDepth 100000 in
theorem span_c (a n : Int) (w : World) : Calls Try.prog 44 #[.int .i64 a, .int .i64 n] w fun e w' => e = .returned (.bool (spB a n)) ∧ w = w' := by
 by_cases h0 : wB 0 65535 a = true
 ·have hb := wB_iff.1 h0
  have b0 := hb.1; have b1 := hb.2
  by_cases h1 : n ≤ 65536 - a
  ·have t1 : decide (n ≤ 65536 - a) = true := decide_eq_true h1
   have hr : Aside0 (spB a n = true) := ⟨decide_eq_true ⟨b0, b1, by omega⟩⟩
   rw [hr.out]; clear h1 hb
   go_enter Try.func44, Try.ntmps44
   go_wp2_with (go_at_call 43; refine (within_c _ _ _ _).mono ?_; rintro e w' ⟨rfl, rfl⟩)
   go_ret
   exact ⟨rfl, rfl⟩
  ·have t1 : decide (n ≤ 65536 - a) = false := decide_eq_false h1
   have hr : Aside0 (spB a n = false) := ⟨decide_eq_false (fun a => by omega)⟩
   rw [hr.out]; clear h1 hb
   go_enter Try.func44, Try.ntmps44
   go_wp2_with (go_at_call 43; refine (within_c _ _ _ _).mono ?_; rintro e w' ⟨rfl, rfl⟩)
   go_ret
   exact ⟨rfl, rfl⟩
 ·have t0 : wB 0 65535 a = false := by simpa using h0
  have hr : Aside0 (spB a n = false) := ⟨decide_eq_false (fun a => h0 (wB_iff.2 ⟨a.1, a.2.1⟩))⟩
  rw [hr.out]; clear h0
  go_enter Try.func44, Try.ntmps44
  go_wp2_with (go_at_call 43; refine (within_c _ _ _ _).mono ?_; rintro e w' ⟨rfl, rfl⟩)
  go_ret
  exact ⟨rfl, rfl⟩
set_option maxHeartbeats 4000000 in
set_option maxRecDepth 100000 in
theorem all_c (A : Option Addr) (c : Nat) (l : List Int) (m : Int) (w : World) (hV : Kd.C (Kd.int .i64) w A l.length l) : Calls Try.prog 46 #[.slice A l.length c, .int .i64 m] w fun e w' => e = .returned (.bool (lowB m l)) ∧ w = w' := by
 have hmx := hV.2.1
 have HV := Aside0.mk hV
 clear hV
 go_enter Try.func46, Try.ntmps46
 go_wp2_with fail
 go_loop [9] (fun i => ∃ k : Nat, k ≤ l.length ∧ i = .int .i64 k ∧ Aside0 (lowB m (l.take k) = true)) (fun i => l.length - (intOf i).toNat)
 case atStart => exact ⟨0, by omega, rfl, ⟨by rw [List.take_zero]; exact low_nil _⟩⟩
 case round =>
  obtain ⟨k, hk, rfl, HL⟩ := hrel
  by_cases hlt : k < l.length
  ·have t1 : decide (k < l.length) = true := decide_eq_true hlt
   have t2 : decide ((k : Int) < (l.length : Int)) = true := decide_eq_true (by omega)
   obtain ⟨ad, rfl, hc0⟩ := C_cell HV.out (by omega)
   have hc := hc0 k hlt
   clear hc0
   obtain ⟨x, hx⟩ : ∃ x, l.getD k 0 = x := ⟨_, rfl⟩
   rw [hx] at hc
   have HX := Aside0.mk hx
   clear hx
   have hkl := hlt
   clear hlt
   by_cases hb : wB 0 m x = true
   ·have HB := Aside0.mk hb
    skip
    go_wp2_with (go_at_call 43; refine (within_c _ _ _ _).mono ?_; rintro e w' ⟨rfl, rfl⟩)
    go_round
    case rel => exact ⟨k + 1, by omega, by go_num, ⟨low_take hkl HL.out (by rw [HX.out]; exact HB.out)⟩⟩
    case measure => simp [intOf]; omega
   ·have hb' : wB 0 m x = false := by simpa using hb
    have HN : Aside0 (lowB m l = false) := ⟨low_bad hkl (by rw [HX.out]; exact hb')⟩
    clear hb
    go_wp2_with (go_at_call 43; refine (within_c _ _ _ _).mono ?_; rintro e w' ⟨rfl, rfl⟩)
    go_ret
    exact ⟨by rw [HN.out]; rfl, rfl⟩
  ·obtain rfl : k = l.length := by omega
   have t1 : decide (l.length < l.length) = false := decide_eq_false (by omega)
   have t2 : decide ((l.length : Int) < (l.length : Int)) = false := decide_eq_false (by omega)
   have hl := HL.out
   rw [List.take_of_length_le (Nat.le_refl _)] at hl
   have HL2 := Aside0.mk hl
   clear hl hlt
   go_wp2_with fail
   go_ret
   exact ⟨by rw [HL2.out]; rfl, rfl⟩
set_option maxHeartbeats 4000000 in
set_option maxRecDepth 100000 in
theorem is_c (n : Int) (w : World) : Calls Try.prog 28 #[.int .i64 n] w fun e w' => e = .returned (.bool (wB 0 65535 n)) ∧ w = w' := by
 by_cases h0 : 0 ≤ n
 ·have t0 : decide (0 ≤ n) = true := decide_eq_true h0
  by_cases h1 : n ≤ 65535
  ·have t1 : decide (n ≤ 65535) = true := decide_eq_true h1
   rw [wB_yes h0 h1]; clear h0 h1
   go_enter Try.func28, Try.ntmps28
   go_wp2
   go_ret
   exact ⟨rfl, rfl⟩
  ·have t1 : decide (n ≤ 65535) = false := decide_eq_false h1
   rw [wB_no (fun a => h1 a.2)]; clear h0 h1
   go_enter Try.func28, Try.ntmps28
   go_wp2
   go_ret
   exact ⟨rfl, rfl⟩
 ·have t0 : decide (0 ≤ n) = false := decide_eq_false h0
  rw [wB_no (fun a => h0 a.1)]; clear h0
  go_enter Try.func28, Try.ntmps28
  go_wp2
  go_ret
  exact ⟨rfl, rfl⟩
set_option maxHeartbeats 4000000 in
set_option maxRecDepth 100000 in
theorem words_c (A : Option Addr) (c : Nat) (l : List Int) (w : World) (hV : Kd.C (Kd.int .i64) w A l.length l) : Calls Try.prog 42 #[.slice A l.length c] w fun e w' => e = .returned (.bool (lowB 65535 l)) ∧ w = w' := by
 have hmx := hV.2.1
 have HV := Aside0.mk hV
 clear hV
 go_enter Try.func42, Try.ntmps42
 go_wp2_with fail
 go_loop [3] (fun i => ∃ k : Nat, k ≤ l.length ∧ i = .int .i64 k ∧ Aside0 (lowB 65535 (l.take k) = true)) (fun i => l.length - (intOf i).toNat)
 case atStart => exact ⟨0, by omega, rfl, ⟨by rw [List.take_zero]; exact low_nil _⟩⟩
 case round =>
  obtain ⟨k, hk, rfl, HL⟩ := hrel
  by_cases hlt : k < l.length
  ·have t1 : decide (k < l.length) = true := decide_eq_true hlt
   have t2 : decide ((k : Int) < (l.length : Int)) = true := decide_eq_true (by omega)
   obtain ⟨ad, rfl, hc0⟩ := C_cell HV.out (by omega)
   have hc := hc0 k hlt
   clear hc0
   obtain ⟨x, hx⟩ : ∃ x, l.getD k 0 = x := ⟨_, rfl⟩
   rw [hx] at hc
   have HX := Aside0.mk hx
   clear hx
   have hkl := hlt
   clear hlt
   by_cases hb : wB 0 65535 x = true
   ·have HB := Aside0.mk hb
    skip
    go_wp2_with (go_at_call 28; refine (is_c _ _).mono ?_; rintro e w' ⟨rfl, rfl⟩)
    go_round
    case rel => exact ⟨k + 1, by omega, by go_num, ⟨low_take hkl HL.out (by rw [HX.out]; exact HB.out)⟩⟩
    case measure => simp [intOf]; omega
   ·have hb' : wB 0 65535 x = false := by simpa using hb
    have HN : Aside0 (lowB 65535 l = false) := ⟨low_bad hkl (by rw [HX.out]; exact hb')⟩
    clear hb
    go_wp2_with (go_at_call 28; refine (is_c _ _).mono ?_; rintro e w' ⟨rfl, rfl⟩)
    go_ret
    exact ⟨by rw [HN.out]; rfl, rfl⟩
  ·obtain rfl : k = l.length := by omega
   have t1 : decide (l.length < l.length) = false := decide_eq_false (by omega)
   have t2 : decide ((l.length : Int) < (l.length : Int)) = false := decide_eq_false (by omega)
   have hl := HL.out
   rw [List.take_of_length_le (Nat.le_refl _)] at hl
   have HL2 := Aside0.mk hl
   clear hl hlt
   go_wp2_with fail
   go_ret
   exact ⟨by rw [HL2.out]; rfl, rfl⟩
set_option maxHeartbeats 4000000 in
set_option maxRecDepth 100000 in
theorem bits_c (A : Option Addr) (c : Nat) (l : List Int) (w : World) (hV : Kd.C (Kd.int .i64) w A l.length l) : Calls Try.prog 41 #[.slice A l.length c] w fun e w' => e = .returned (.bool (lowB 1 l)) ∧ w = w' := by
 have hmx := hV.2.1
 have HV := Aside0.mk hV
 clear hV
 go_enter Try.func41, Try.ntmps41
 go_wp2_with fail
 go_loop [3] (fun i => ∃ k : Nat, k ≤ l.length ∧ i = .int .i64 k ∧ Aside0 (lowB 1 (l.take k) = true)) (fun i => l.length - (intOf i).toNat)
 case atStart => exact ⟨0, by omega, rfl, ⟨by rw [List.take_zero]; exact low_nil _⟩⟩
 case round =>
  obtain ⟨k, hk, rfl, HL⟩ := hrel
  by_cases hlt : k < l.length
  ·have t1 : decide (k < l.length) = true := decide_eq_true hlt
   have t2 : decide ((k : Int) < (l.length : Int)) = true := decide_eq_true (by omega)
   obtain ⟨ad, rfl, hc0⟩ := C_cell HV.out (by omega)
   have hc := hc0 k hlt
   clear hc0
   obtain ⟨x, hx⟩ : ∃ x, l.getD k 0 = x := ⟨_, rfl⟩
   rw [hx] at hc
   have HX := Aside0.mk hx
   clear hx
   have hkl := hlt
   clear hlt
   by_cases hb : wB 0 1 x = true
   ·have HB := Aside0.mk hb
    have hb2 := wB_iff.1 hb; clear hb; rcases (show x = 0 ∨ x = 1 by omega) with e | e <;> subst e <;> clear hb2 <;> (first | (have u0 : ((0 : Int) != 0) = false := rfl) | skip)
    all_goals
     go_wp2_with fail
     go_round
     case rel => exact ⟨k + 1, by omega, by go_num, ⟨low_take hkl HL.out (by rw [HX.out]; exact HB.out)⟩⟩
     case measure => simp [intOf]; omega
   ·have hb' : wB 0 1 x = false := by simpa using hb
    have HN : Aside0 (lowB 1 l = false) := ⟨low_bad hkl (by rw [HX.out]; exact hb')⟩
    have hb2 : ¬ (0 ≤ x ∧ x ≤ 1) := fun a => hb (wB_iff.2 a)
    have u0 : (x != 0) = true := bne_iff_ne.2 (by omega)
    have u1 : (x != 1) = true := bne_iff_ne.2 (by omega)
    clear hb hb' hb2
    go_wp2_with fail
    go_ret
    exact ⟨by rw [HN.out]; rfl, rfl⟩
  ·obtain rfl : k = l.length := by omega
   have t1 : decide (l.length < l.length) = false := decide_eq_false (by omega)
   have t2 : decide ((l.length : Int) < (l.length : Int)) = false := decide_eq_false (by omega)
   have hl := HL.out
   rw [List.take_of_length_le (Nat.le_refl _)] at hl
   have HL2 := Aside0.mk hl
   clear hl hlt
   go_wp2_with fail
   go_ret
   exact ⟨by rw [HL2.out]; rfl, rfl⟩
set_option maxHeartbeats 4000000 in
set_option maxRecDepth 100000 in
theorem some_c (A : Option Addr) (c : Nat) (l : List Int) (lo hi m : Int) (w : World) (hV : Kd.C (Kd.int .i64) w A l.length l) : Calls Try.prog 45 #[.slice A l.length c, .int .i64 lo, .int .i64 hi, .int .i64 m] w fun e w' => e = .returned (.bool (smB lo hi m l)) ∧ w = w' := by
 have HV := Aside0.mk hV
 clear hV
 unfold smB
 by_cases h0 : wB lo hi l.length = true
 ·rw [h0, Bool.true_and]
  go_enter Try.func45, Try.ntmps45
  go_wp2_with (first | (go_at_call 43; refine (within_c _ _ _ _).mono ?_; rintro e w' ⟨rfl, rfl⟩) | (go_at_call 46; refine (all_c A c l m _ HV.out).mono ?_; rintro e w' ⟨rfl, rfl⟩))
  go_ret
  exact ⟨rfl, rfl⟩
 ·have t0 : wB lo hi l.length = false := by simpa using h0
  rw [t0, Bool.false_and]; clear h0
  go_enter Try.func45, Try.ntmps45
  go_wp2_with (go_at_call 43; refine (within_c _ _ _ _).mono ?_; rintro e w' ⟨rfl, rfl⟩)
  go_ret
  exact ⟨rfl, rfl⟩
def chkB (f a c : Int) (v : List Int) (t n o : Int) : Bool :=
 if f = 1 ∨ f = 2 then t == 0 && n == 0 && o == 0 && (v.length : Int) == 0 && wB 1 2000 c && spB a c
 else if f = 3 ∨ f = 4 then t == 0 && n == 0 && o == 0 && (v.length : Int) == 0 && wB 1 125 c && spB a c
 else if f = 5 then t == 0 && n == 0 && o == 0 && c == 0 && smB 1 1 1 v && spB a 1
 else if f = 6 then t == 0 && n == 0 && o == 0 && c == 0 && smB 1 1 65535 v && spB a 1
 else if f = 15 then t == 0 && n == 0 && o == 0 && c == v.length && smB 1 1968 1 v && spB a v.length
 else if f = 16 then t == 0 && n == 0 && o == 0 && c == v.length && smB 1 123 65535 v && spB a v.length
 else if f = 22 then (v.length : Int) == 0 && t == 0 && c == 0 && spB a 1 && wB 0 65535 n && wB 0 65535 o
 else if f = 23 then n == 0 && o == 0 && wB 1 125 c && spB a c && smB 1 121 65535 v && spB t v.length
 else false
theorem low_two (n o : Int) : lowB 65535 [n, o] = (wB 0 65535 n && wB 0 65535 o) := by
 unfold lowB wB
 rw [Bool.eq_iff_iff, Bool.and_eq_true, decide_eq_true_eq, decide_eq_true_eq, decide_eq_true_eq]
 constructor
 ·intro h; exact ⟨h n (by simp), h o (by simp)⟩
 ·intro h x hx
  rcases List.mem_cons.1 hx with e | hx
  ·rw [e]; exact h.1
  ·have e : x = o := by simpa using hx
   rw [e]; exact h.2
end Go.Proofs.Ytlalpooiegganaa.Chk
end

section
namespace Go.Proofs.Ytlalpooiegganaa.Chk
open Go.RowKit Go.Proofs.YtlalpooiegganaaW.PrintWords Go.Proofs.YtlalpooiegganaaW.PrintLast Go.Proofs.YtlalpooiegganaaW.PrintMore Go.Proofs.Ytlalpooiegganaa.Core Go.Proofs.Ytlalpooiegganaa.Wk
set_option linter.unusedVariables false
set_option linter.unusedSimpArgs false
set_option maxHeartbeats 4000000 in
set_option maxRecDepth 100000 in
theorem chk_1 (a c : Int) (A : Option Addr) (cc : Nat) (v : List Int) (t n o : Int) (w : World) (hV : Kd.C (Kd.int .i64) w A v.length v) : Calls Try.prog 29 #[.agg #[.int .i64 1, .int .i64 a, .int .i64 c, .slice A v.length cc, .int .i64 t, .int .i64 n, .int .i64 o]] w fun e w' => e = .returned (.int .i64 (if chkB 1 a c v t n o then 0 else 1)) ∧ Below w.heap.size w w' := by
 have HV := Aside0.mk hV; clear hV
 by_cases hz0 : (t == 0) = true
 ·have z0 : (t == 0) = true := hz0; clear hz0
  by_cases hz1 : (n == 0) = true
  ·have z1 : (n == 0) = true := hz1; clear hz1
   by_cases hz2 : (o == 0) = true
   ·have z2 : (o == 0) = true := hz2; clear hz2
    by_cases hz3 : ((v.length : Int) == 0) = true
    ·have z3 : ((v.length : Int) == 0) = true := hz3; clear hz3
     by_cases hz4 : wB 1 2000 c = true
     ·have z4 : wB 1 2000 c = true := hz4; clear hz4
      by_cases hz5 : spB a c = true
      ·have z5 : spB a c = true := hz5; clear hz5
       have HR : Aside0 (chkB 1 a c v t n o = true) := ⟨by simp [chkB, z0, z1, z2, z3, z4, z5]⟩
       rw [HR.out]
       go_enter Try.func29, Try.ntmps29
       go_wp2_with (first | (go_at_call 43; refine (within_c _ _ _ _).mono ?_; rintro e w' ⟨rfl, rfl⟩) | (go_at_call 44; refine (span_c _ _ _).mono ?_; rintro e w' ⟨rfl, rfl⟩) | (go_at_call 45; refine (some_c A cc v _ _ _ _ ?hv).mono ?_; (case hv => (with_reducible repeat (first | refine Kd.C_alloc ?_ _ | refine Kd.C_drewN ?_ _ | refine Kd.C_drew ?_)); exact HV.out); rintro e w' ⟨rfl, rfl⟩) | (go_at_call 46; refine (all_c _ _ [n, o] _ _ ?hv).mono ?_; (case hv => exact row_C (xs := [n, o]) (new_blk (by simp)) (by simp)); rintro e w' ⟨rfl, rfl⟩))
       go_ret
       exact ⟨rfl, by repeat (first | exact Below.refl _ _ | apply below_alloc)⟩
      ·have z5 : spB a c = false := by simpa using hz5
       clear hz5
       have HR : Aside0 (chkB 1 a c v t n o = false) := ⟨by simp [chkB, z0, z1, z2, z3, z4, z5]⟩
       rw [HR.out]
       go_enter Try.func29, Try.ntmps29
       go_wp2_with (first | (go_at_call 43; refine (within_c _ _ _ _).mono ?_; rintro e w' ⟨rfl, rfl⟩) | (go_at_call 44; refine (span_c _ _ _).mono ?_; rintro e w' ⟨rfl, rfl⟩) | (go_at_call 45; refine (some_c A cc v _ _ _ _ ?hv).mono ?_; (case hv => (with_reducible repeat (first | refine Kd.C_alloc ?_ _ | refine Kd.C_drewN ?_ _ | refine Kd.C_drew ?_)); exact HV.out); rintro e w' ⟨rfl, rfl⟩) | (go_at_call 46; refine (all_c _ _ [n, o] _ _ ?hv).mono ?_; (case hv => exact row_C (xs := [n, o]) (new_blk (by simp)) (by simp)); rintro e w' ⟨rfl, rfl⟩))
       go_ret
       exact ⟨rfl, by repeat (first | exact Below.refl _ _ | apply below_alloc)⟩
     ·have z4 : wB 1 2000 c = false := by simpa using hz4
      clear hz4
      have HR : Aside0 (chkB 1 a c v t n o = false) := ⟨by simp [chkB, z0, z1, z2, z3, z4]⟩
      rw [HR.out]
      go_enter Try.func29, Try.ntmps29
      go_wp2_with (first | (go_at_call 43; refine (within_c _ _ _ _).mono ?_; rintro e w' ⟨rfl, rfl⟩) | (go_at_call 44; refine (span_c _ _ _).mono ?_; rintro e w' ⟨rfl, rfl⟩) | (go_at_call 45; refine (some_c A cc v _ _ _ _ ?hv).mono ?_; (case hv => (with_reducible repeat (first | refine Kd.C_alloc ?_ _ | refine Kd.C_drewN ?_ _ | refine Kd.C_drew ?_)); exact HV.out); rintro e w' ⟨rfl, rfl⟩) | (go_at_call 46; refine (all_c _ _ [n, o] _ _ ?hv).mono ?_; (case hv => exact row_C (xs := [n, o]) (new_blk (by simp)) (by simp)); rintro e w' ⟨rfl, rfl⟩))
      go_ret
      exact ⟨rfl, by repeat (first | exact Below.refl _ _ | apply below_alloc)⟩
    ·have z3 : ((v.length : Int) == 0) = false := by simpa using hz3
     clear hz3
     have HR : Aside0 (chkB 1 a c v t n o = false) := ⟨by simp [chkB, z0, z1, z2, z3]⟩
     rw [HR.out]
     go_enter Try.func29, Try.ntmps29
     go_wp2_with (first | (go_at_call 43; refine (within_c _ _ _ _).mono ?_; rintro e w' ⟨rfl, rfl⟩) | (go_at_call 44; refine (span_c _ _ _).mono ?_; rintro e w' ⟨rfl, rfl⟩) | (go_at_call 45; refine (some_c A cc v _ _ _ _ ?hv).mono ?_; (case hv => (with_reducible repeat (first | refine Kd.C_alloc ?_ _ | refine Kd.C_drewN ?_ _ | refine Kd.C_drew ?_)); exact HV.out); rintro e w' ⟨rfl, rfl⟩) | (go_at_call 46; refine (all_c _ _ [n, o] _ _ ?hv).mono ?_; (case hv => exact row_C (xs := [n, o]) (new_blk (by simp)) (by simp)); rintro e w' ⟨rfl, rfl⟩))
     go_ret
     exact ⟨rfl, by repeat (first | exact Below.refl _ _ | apply below_alloc)⟩
   ·have z2 : (o == 0) = false := by simpa using hz2
    clear hz2
    have HR : Aside0 (chkB 1 a c v t n o = false) := ⟨by simp [chkB, z0, z1, z2]⟩
    rw [HR.out]
    go_enter Try.func29, Try.ntmps29
    go_wp2_with (first | (go_at_call 43; refine (within_c _ _ _ _).mono ?_; rintro e w' ⟨rfl, rfl⟩) | (go_at_call 44; refine (span_c _ _ _).mono ?_; rintro e w' ⟨rfl, rfl⟩) | (go_at_call 45; refine (some_c A cc v _ _ _ _ ?hv).mono ?_; (case hv => (with_reducible repeat (first | refine Kd.C_alloc ?_ _ | refine Kd.C_drewN ?_ _ | refine Kd.C_drew ?_)); exact HV.out); rintro e w' ⟨rfl, rfl⟩) | (go_at_call 46; refine (all_c _ _ [n, o] _ _ ?hv).mono ?_; (case hv => exact row_C (xs := [n, o]) (new_blk (by simp)) (by simp)); rintro e w' ⟨rfl, rfl⟩))
    go_ret
    exact ⟨rfl, by repeat (first | exact Below.refl _ _ | apply below_alloc)⟩
  ·have z1 : (n == 0) = false := by simpa using hz1
   clear hz1
   have HR : Aside0 (chkB 1 a c v t n o = false) := ⟨by simp [chkB, z0, z1]⟩
   rw [HR.out]
   go_enter Try.func29, Try.ntmps29
   go_wp2_with (first | (go_at_call 43; refine (within_c _ _ _ _).mono ?_; rintro e w' ⟨rfl, rfl⟩) | (go_at_call 44; refine (span_c _ _ _).mono ?_; rintro e w' ⟨rfl, rfl⟩) | (go_at_call 45; refine (some_c A cc v _ _ _ _ ?hv).mono ?_; (case hv => (with_reducible repeat (first | refine Kd.C_alloc ?_ _ | refine Kd.C_drewN ?_ _ | refine Kd.C_drew ?_)); exact HV.out); rintro e w' ⟨rfl, rfl⟩) | (go_at_call 46; refine (all_c _ _ [n, o] _ _ ?hv).mono ?_; (case hv => exact row_C (xs := [n, o]) (new_blk (by simp)) (by simp)); rintro e w' ⟨rfl, rfl⟩))
   go_ret
   exact ⟨rfl, by repeat (first | exact Below.refl _ _ | apply below_alloc)⟩
 ·have z0 : (t == 0) = false := by simpa using hz0
  clear hz0
  have HR : Aside0 (chkB 1 a c v t n o = false) := ⟨by simp [chkB, z0]⟩
  rw [HR.out]
  go_enter Try.func29, Try.ntmps29
  go_wp2_with (first | (go_at_call 43; refine (within_c _ _ _ _).mono ?_; rintro e w' ⟨rfl, rfl⟩) | (go_at_call 44; refine (span_c _ _ _).mono ?_; rintro e w' ⟨rfl, rfl⟩) | (go_at_call 45; refine (some_c A cc v _ _ _ _ ?hv).mono ?_; (case hv => (with_reducible repeat (first | refine Kd.C_alloc ?_ _ | refine Kd.C_drewN ?_ _ | refine Kd.C_drew ?_)); exact HV.out); rintro e w' ⟨rfl, rfl⟩) | (go_at_call 46; refine (all_c _ _ [n, o] _ _ ?hv).mono ?_; (case hv => exact row_C (xs := [n, o]) (new_blk (by simp)) (by simp)); rintro e w' ⟨rfl, rfl⟩))
  go_ret
  exact ⟨rfl, by repeat (first | exact Below.refl _ _ | apply below_alloc)⟩
set_option maxHeartbeats 4000000 in
set_option maxRecDepth 100000 in
theorem chk_2 (a c : Int) (A : Option Addr) (cc : Nat) (v : List Int) (t n o : Int) (w : World) (hV : Kd.C (Kd.int .i64) w A v.length v) : Calls Try.prog 29 #[.agg #[.int .i64 2, .int .i64 a, .int .i64 c, .slice A v.length cc, .int .i64 t, .int .i64 n, .int .i64 o]] w fun e w' => e = .returned (.int .i64 (if chkB 2 a c v t n o then 0 else 1)) ∧ Below w.heap.size w w' := by
 have HV := Aside0.mk hV; clear hV
 by_cases hz0 : (t == 0) = true
 ·have z0 : (t == 0) = true := hz0; clear hz0
  by_cases hz1 : (n == 0) = true
  ·have z1 : (n == 0) = true := hz1; clear hz1
   by_cases hz2 : (o == 0) = true
   ·have z2 : (o == 0) = true := hz2; clear hz2
    by_cases hz3 : ((v.length : Int) == 0) = true
    ·have z3 : ((v.length : Int) == 0) = true := hz3; clear hz3
     by_cases hz4 : wB 1 2000 c = true
     ·have z4 : wB 1 2000 c = true := hz4; clear hz4
      by_cases hz5 : spB a c = true
      ·have z5 : spB a c = true := hz5; clear hz5
       have HR : Aside0 (chkB 2 a c v t n o = true) := ⟨by simp [chkB, z0, z1, z2, z3, z4, z5]⟩
       rw [HR.out]
       go_enter Try.func29, Try.ntmps29
       go_wp2_with (first | (go_at_call 43; refine (within_c _ _ _ _).mono ?_; rintro e w' ⟨rfl, rfl⟩) | (go_at_call 44; refine (span_c _ _ _).mono ?_; rintro e w' ⟨rfl, rfl⟩) | (go_at_call 45; refine (some_c A cc v _ _ _ _ ?hv).mono ?_; (case hv => (with_reducible repeat (first | refine Kd.C_alloc ?_ _ | refine Kd.C_drewN ?_ _ | refine Kd.C_drew ?_)); exact HV.out); rintro e w' ⟨rfl, rfl⟩) | (go_at_call 46; refine (all_c _ _ [n, o] _ _ ?hv).mono ?_; (case hv => exact row_C (xs := [n, o]) (new_blk (by simp)) (by simp)); rintro e w' ⟨rfl, rfl⟩))
       go_ret
       exact ⟨rfl, by repeat (first | exact Below.refl _ _ | apply below_alloc)⟩
      ·have z5 : spB a c = false := by simpa using hz5
       clear hz5
       have HR : Aside0 (chkB 2 a c v t n o = false) := ⟨by simp [chkB, z0, z1, z2, z3, z4, z5]⟩
       rw [HR.out]
       go_enter Try.func29, Try.ntmps29
       go_wp2_with (first | (go_at_call 43; refine (within_c _ _ _ _).mono ?_; rintro e w' ⟨rfl, rfl⟩) | (go_at_call 44; refine (span_c _ _ _).mono ?_; rintro e w' ⟨rfl, rfl⟩) | (go_at_call 45; refine (some_c A cc v _ _ _ _ ?hv).mono ?_; (case hv => (with_reducible repeat (first | refine Kd.C_alloc ?_ _ | refine Kd.C_drewN ?_ _ | refine Kd.C_drew ?_)); exact HV.out); rintro e w' ⟨rfl, rfl⟩) | (go_at_call 46; refine (all_c _ _ [n, o] _ _ ?hv).mono ?_; (case hv => exact row_C (xs := [n, o]) (new_blk (by simp)) (by simp)); rintro e w' ⟨rfl, rfl⟩))
       go_ret
       exact ⟨rfl, by repeat (first | exact Below.refl _ _ | apply below_alloc)⟩
     ·have z4 : wB 1 2000 c = false := by simpa using hz4
      clear hz4
      have HR : Aside0 (chkB 2 a c v t n o = false) := ⟨by simp [chkB, z0, z1, z2, z3, z4]⟩
      rw [HR.out]
      go_enter Try.func29, Try.ntmps29
      go_wp2_with (first | (go_at_call 43; refine (within_c _ _ _ _).mono ?_; rintro e w' ⟨rfl, rfl⟩) | (go_at_call 44; refine (span_c _ _ _).mono ?_; rintro e w' ⟨rfl, rfl⟩) | (go_at_call 45; refine (some_c A cc v _ _ _ _ ?hv).mono ?_; (case hv => (with_reducible repeat (first | refine Kd.C_alloc ?_ _ | refine Kd.C_drewN ?_ _ | refine Kd.C_drew ?_)); exact HV.out); rintro e w' ⟨rfl, rfl⟩) | (go_at_call 46; refine (all_c _ _ [n, o] _ _ ?hv).mono ?_; (case hv => exact row_C (xs := [n, o]) (new_blk (by simp)) (by simp)); rintro e w' ⟨rfl, rfl⟩))
      go_ret
      exact ⟨rfl, by repeat (first | exact Below.refl _ _ | apply below_alloc)⟩
    ·have z3 : ((v.length : Int) == 0) = false := by simpa using hz3
     clear hz3
     have HR : Aside0 (chkB 2 a c v t n o = false) := ⟨by simp [chkB, z0, z1, z2, z3]⟩
     rw [HR.out]
     go_enter Try.func29, Try.ntmps29
     go_wp2_with (first | (go_at_call 43; refine (within_c _ _ _ _).mono ?_; rintro e w' ⟨rfl, rfl⟩) | (go_at_call 44; refine (span_c _ _ _).mono ?_; rintro e w' ⟨rfl, rfl⟩) | (go_at_call 45; refine (some_c A cc v _ _ _ _ ?hv).mono ?_; (case hv => (with_reducible repeat (first | refine Kd.C_alloc ?_ _ | refine Kd.C_drewN ?_ _ | refine Kd.C_drew ?_)); exact HV.out); rintro e w' ⟨rfl, rfl⟩) | (go_at_call 46; refine (all_c _ _ [n, o] _ _ ?hv).mono ?_; (case hv => exact row_C (xs := [n, o]) (new_blk (by simp)) (by simp)); rintro e w' ⟨rfl, rfl⟩))
     go_ret
     exact ⟨rfl, by repeat (first | exact Below.refl _ _ | apply below_alloc)⟩
   ·have z2 : (o == 0) = false := by simpa using hz2
    clear hz2
    have HR : Aside0 (chkB 2 a c v t n o = false) := ⟨by simp [chkB, z0, z1, z2]⟩
    rw [HR.out]
    go_enter Try.func29, Try.ntmps29
    go_wp2_with (first | (go_at_call 43; refine (within_c _ _ _ _).mono ?_; rintro e w' ⟨rfl, rfl⟩) | (go_at_call 44; refine (span_c _ _ _).mono ?_; rintro e w' ⟨rfl, rfl⟩) | (go_at_call 45; refine (some_c A cc v _ _ _ _ ?hv).mono ?_; (case hv => (with_reducible repeat (first | refine Kd.C_alloc ?_ _ | refine Kd.C_drewN ?_ _ | refine Kd.C_drew ?_)); exact HV.out); rintro e w' ⟨rfl, rfl⟩) | (go_at_call 46; refine (all_c _ _ [n, o] _ _ ?hv).mono ?_; (case hv => exact row_C (xs := [n, o]) (new_blk (by simp)) (by simp)); rintro e w' ⟨rfl, rfl⟩))
    go_ret
    exact ⟨rfl, by repeat (first | exact Below.refl _ _ | apply below_alloc)⟩
  ·have z1 : (n == 0) = false := by simpa using hz1
   clear hz1
   have HR : Aside0 (chkB 2 a c v t n o = false) := ⟨by simp [chkB, z0, z1]⟩
   rw [HR.out]
   go_enter Try.func29, Try.ntmps29
   go_wp2_with (first | (go_at_call 43; refine (within_c _ _ _ _).mono ?_; rintro e w' ⟨rfl, rfl⟩) | (go_at_call 44; refine (span_c _ _ _).mono ?_; rintro e w' ⟨rfl, rfl⟩) | (go_at_call 45; refine (some_c A cc v _ _ _ _ ?hv).mono ?_; (case hv => (with_reducible repeat (first | refine Kd.C_alloc ?_ _ | refine Kd.C_drewN ?_ _ | refine Kd.C_drew ?_)); exact HV.out); rintro e w' ⟨rfl, rfl⟩) | (go_at_call 46; refine (all_c _ _ [n, o] _ _ ?hv).mono ?_; (case hv => exact row_C (xs := [n, o]) (new_blk (by simp)) (by simp)); rintro e w' ⟨rfl, rfl⟩))
   go_ret
   exact ⟨rfl, by repeat (first | exact Below.refl _ _ | apply below_alloc)⟩
 ·have z0 : (t == 0) = false := by simpa using hz0
  clear hz0
  have HR : Aside0 (chkB 2 a c v t n o = false) := ⟨by simp [chkB, z0]⟩
  rw [HR.out]
  go_enter Try.func29, Try.ntmps29
  go_wp2_with (first | (go_at_call 43; refine (within_c _ _ _ _).mono ?_; rintro e w' ⟨rfl, rfl⟩) | (go_at_call 44; refine (span_c _ _ _).mono ?_; rintro e w' ⟨rfl, rfl⟩) | (go_at_call 45; refine (some_c A cc v _ _ _ _ ?hv).mono ?_; (case hv => (with_reducible repeat (first | refine Kd.C_alloc ?_ _ | refine Kd.C_drewN ?_ _ | refine Kd.C_drew ?_)); exact HV.out); rintro e w' ⟨rfl, rfl⟩) | (go_at_call 46; refine (all_c _ _ [n, o] _ _ ?hv).mono ?_; (case hv => exact row_C (xs := [n, o]) (new_blk (by simp)) (by simp)); rintro e w' ⟨rfl, rfl⟩))
  go_ret
  exact ⟨rfl, by repeat (first | exact Below.refl _ _ | apply below_alloc)⟩
end Go.Proofs.Ytlalpooiegganaa.Chk
end

section
namespace Go.Proofs.Ytlalpooiegganaa.Chk
open Go.RowKit Go.Proofs.YtlalpooiegganaaW.PrintWords Go.Proofs.YtlalpooiegganaaW.PrintLast Go.Proofs.YtlalpooiegganaaW.PrintMore Go.Proofs.Ytlalpooiegganaa.Core Go.Proofs.Ytlalpooiegganaa.Wk
set_option linter.unusedVariables false
set_option linter.unusedSimpArgs false
set_option maxHeartbeats 4000000 in
set_option maxRecDepth 100000 in
theorem chk_3 (a c : Int) (A : Option Addr) (cc : Nat) (v : List Int) (t n o : Int) (w : World) (hV : Kd.C (Kd.int .i64) w A v.length v) : Calls Try.prog 29 #[.agg #[.int .i64 3, .int .i64 a, .int .i64 c, .slice A v.length cc, .int .i64 t, .int .i64 n, .int .i64 o]] w fun e w' => e = .returned (.int .i64 (if chkB 3 a c v t n o then 0 else 1)) ∧ Below w.heap.size w w' := by
 have HV := Aside0.mk hV; clear hV
 by_cases hz0 : (t == 0) = true
 ·have z0 : (t == 0) = true := hz0; clear hz0
  by_cases hz1 : (n == 0) = true
  ·have z1 : (n == 0) = true := hz1; clear hz1
   by_cases hz2 : (o == 0) = true
   ·have z2 : (o == 0) = true := hz2; clear hz2
    by_cases hz3 : ((v.length : Int) == 0) = true
    ·have z3 : ((v.length : Int) == 0) = true := hz3; clear hz3
     by_cases hz4 : wB 1 125 c = true
     ·have z4 : wB 1 125 c = true := hz4; clear hz4
      by_cases hz5 : spB a c = true
      ·have z5 : spB a c = true := hz5; clear hz5
       have HR : Aside0 (chkB 3 a c v t n o = true) := ⟨by simp [chkB, z0, z1, z2, z3, z4, z5]⟩
       rw [HR.out]
       go_enter Try.func29, Try.ntmps29
       go_wp2_with (first | (go_at_call 43; refine (within_c _ _ _ _).mono ?_; rintro e w' ⟨rfl, rfl⟩) | (go_at_call 44; refine (span_c _ _ _).mono ?_; rintro e w' ⟨rfl, rfl⟩) | (go_at_call 45; refine (some_c A cc v _ _ _ _ ?hv).mono ?_; (case hv => (with_reducible repeat (first | refine Kd.C_alloc ?_ _ | refine Kd.C_drewN ?_ _ | refine Kd.C_drew ?_)); exact HV.out); rintro e w' ⟨rfl, rfl⟩) | (go_at_call 46; refine (all_c _ _ [n, o] _ _ ?hv).mono ?_; (case hv => exact row_C (xs := [n, o]) (new_blk (by simp)) (by simp)); rintro e w' ⟨rfl, rfl⟩))
       go_ret
       exact ⟨rfl, by repeat (first | exact Below.refl _ _ | apply below_alloc)⟩
      ·have z5 : spB a c = false := by simpa using hz5
       clear hz5
       have HR : Aside0 (chkB 3 a c v t n o = false) := ⟨by simp [chkB, z0, z1, z2, z3, z4, z5]⟩
       rw [HR.out]
       go_enter Try.func29, Try.ntmps29
       go_wp2_with (first | (go_at_call 43; refine (within_c _ _ _ _).mono ?_; rintro e w' ⟨rfl, rfl⟩) | (go_at_call 44; refine (span_c _ _ _).mono ?_; rintro e w' ⟨rfl, rfl⟩) | (go_at_call 45; refine (some_c A cc v _ _ _ _ ?hv).mono ?_; (case hv => (with_reducible repeat (first | refine Kd.C_alloc ?_ _ | refine Kd.C_drewN ?_ _ | refine Kd.C_drew ?_)); exact HV.out); rintro e w' ⟨rfl, rfl⟩) | (go_at_call 46; refine (all_c _ _ [n, o] _ _ ?hv).mono ?_; (case hv => exact row_C (xs := [n, o]) (new_blk (by simp)) (by simp)); rintro e w' ⟨rfl, rfl⟩))
       go_ret
       exact ⟨rfl, by repeat (first | exact Below.refl _ _ | apply below_alloc)⟩
     ·have z4 : wB 1 125 c = false := by simpa using hz4
      clear hz4
      have HR : Aside0 (chkB 3 a c v t n o = false) := ⟨by simp [chkB, z0, z1, z2, z3, z4]⟩
      rw [HR.out]
      go_enter Try.func29, Try.ntmps29
      go_wp2_with (first | (go_at_call 43; refine (within_c _ _ _ _).mono ?_; rintro e w' ⟨rfl, rfl⟩) | (go_at_call 44; refine (span_c _ _ _).mono ?_; rintro e w' ⟨rfl, rfl⟩) | (go_at_call 45; refine (some_c A cc v _ _ _ _ ?hv).mono ?_; (case hv => (with_reducible repeat (first | refine Kd.C_alloc ?_ _ | refine Kd.C_drewN ?_ _ | refine Kd.C_drew ?_)); exact HV.out); rintro e w' ⟨rfl, rfl⟩) | (go_at_call 46; refine (all_c _ _ [n, o] _ _ ?hv).mono ?_; (case hv => exact row_C (xs := [n, o]) (new_blk (by simp)) (by simp)); rintro e w' ⟨rfl, rfl⟩))
      go_ret
      exact ⟨rfl, by repeat (first | exact Below.refl _ _ | apply below_alloc)⟩
    ·have z3 : ((v.length : Int) == 0) = false := by simpa using hz3
     clear hz3
     have HR : Aside0 (chkB 3 a c v t n o = false) := ⟨by simp [chkB, z0, z1, z2, z3]⟩
     rw [HR.out]
     go_enter Try.func29, Try.ntmps29
     go_wp2_with (first | (go_at_call 43; refine (within_c _ _ _ _).mono ?_; rintro e w' ⟨rfl, rfl⟩) | (go_at_call 44; refine (span_c _ _ _).mono ?_; rintro e w' ⟨rfl, rfl⟩) | (go_at_call 45; refine (some_c A cc v _ _ _ _ ?hv).mono ?_; (case hv => (with_reducible repeat (first | refine Kd.C_alloc ?_ _ | refine Kd.C_drewN ?_ _ | refine Kd.C_drew ?_)); exact HV.out); rintro e w' ⟨rfl, rfl⟩) | (go_at_call 46; refine (all_c _ _ [n, o] _ _ ?hv).mono ?_; (case hv => exact row_C (xs := [n, o]) (new_blk (by simp)) (by simp)); rintro e w' ⟨rfl, rfl⟩))
     go_ret
     exact ⟨rfl, by repeat (first | exact Below.refl _ _ | apply below_alloc)⟩
   ·have z2 : (o == 0) = false := by simpa using hz2
    clear hz2
    have HR : Aside0 (chkB 3 a c v t n o = false) := ⟨by simp [chkB, z0, z1, z2]⟩
    rw [HR.out]
    go_enter Try.func29, Try.ntmps29
    go_wp2_with (first | (go_at_call 43; refine (within_c _ _ _ _).mono ?_; rintro e w' ⟨rfl, rfl⟩) | (go_at_call 44; refine (span_c _ _ _).mono ?_; rintro e w' ⟨rfl, rfl⟩) | (go_at_call 45; refine (some_c A cc v _ _ _ _ ?hv).mono ?_; (case hv => (with_reducible repeat (first | refine Kd.C_alloc ?_ _ | refine Kd.C_drewN ?_ _ | refine Kd.C_drew ?_)); exact HV.out); rintro e w' ⟨rfl, rfl⟩) | (go_at_call 46; refine (all_c _ _ [n, o] _ _ ?hv).mono ?_; (case hv => exact row_C (xs := [n, o]) (new_blk (by simp)) (by simp)); rintro e w' ⟨rfl, rfl⟩))
    go_ret
    exact ⟨rfl, by repeat (first | exact Below.refl _ _ | apply below_alloc)⟩
  ·have z1 : (n == 0) = false := by simpa using hz1
   clear hz1
   have HR : Aside0 (chkB 3 a c v t n o = false) := ⟨by simp [chkB, z0, z1]⟩
   rw [HR.out]
   go_enter Try.func29, Try.ntmps29
   go_wp2_with (first | (go_at_call 43; refine (within_c _ _ _ _).mono ?_; rintro e w' ⟨rfl, rfl⟩) | (go_at_call 44; refine (span_c _ _ _).mono ?_; rintro e w' ⟨rfl, rfl⟩) | (go_at_call 45; refine (some_c A cc v _ _ _ _ ?hv).mono ?_; (case hv => (with_reducible repeat (first | refine Kd.C_alloc ?_ _ | refine Kd.C_drewN ?_ _ | refine Kd.C_drew ?_)); exact HV.out); rintro e w' ⟨rfl, rfl⟩) | (go_at_call 46; refine (all_c _ _ [n, o] _ _ ?hv).mono ?_; (case hv => exact row_C (xs := [n, o]) (new_blk (by simp)) (by simp)); rintro e w' ⟨rfl, rfl⟩))
   go_ret
   exact ⟨rfl, by repeat (first | exact Below.refl _ _ | apply below_alloc)⟩
 ·have z0 : (t == 0) = false := by simpa using hz0
  clear hz0
  have HR : Aside0 (chkB 3 a c v t n o = false) := ⟨by simp [chkB, z0]⟩
  rw [HR.out]
  go_enter Try.func29, Try.ntmps29
  go_wp2_with (first | (go_at_call 43; refine (within_c _ _ _ _).mono ?_; rintro e w' ⟨rfl, rfl⟩) | (go_at_call 44; refine (span_c _ _ _).mono ?_; rintro e w' ⟨rfl, rfl⟩) | (go_at_call 45; refine (some_c A cc v _ _ _ _ ?hv).mono ?_; (case hv => (with_reducible repeat (first | refine Kd.C_alloc ?_ _ | refine Kd.C_drewN ?_ _ | refine Kd.C_drew ?_)); exact HV.out); rintro e w' ⟨rfl, rfl⟩) | (go_at_call 46; refine (all_c _ _ [n, o] _ _ ?hv).mono ?_; (case hv => exact row_C (xs := [n, o]) (new_blk (by simp)) (by simp)); rintro e w' ⟨rfl, rfl⟩))
  go_ret
  exact ⟨rfl, by repeat (first | exact Below.refl _ _ | apply below_alloc)⟩
set_option maxHeartbeats 4000000 in
set_option maxRecDepth 100000 in
theorem chk_4 (a c : Int) (A : Option Addr) (cc : Nat) (v : List Int) (t n o : Int) (w : World) (hV : Kd.C (Kd.int .i64) w A v.length v) : Calls Try.prog 29 #[.agg #[.int .i64 4, .int .i64 a, .int .i64 c, .slice A v.length cc, .int .i64 t, .int .i64 n, .int .i64 o]] w fun e w' => e = .returned (.int .i64 (if chkB 4 a c v t n o then 0 else 1)) ∧ Below w.heap.size w w' := by
 have HV := Aside0.mk hV; clear hV
 by_cases hz0 : (t == 0) = true
 ·have z0 : (t == 0) = true := hz0; clear hz0
  by_cases hz1 : (n == 0) = true
  ·have z1 : (n == 0) = true := hz1; clear hz1
   by_cases hz2 : (o == 0) = true
   ·have z2 : (o == 0) = true := hz2; clear hz2
    by_cases hz3 : ((v.length : Int) == 0) = true
    ·have z3 : ((v.length : Int) == 0) = true := hz3; clear hz3
     by_cases hz4 : wB 1 125 c = true
     ·have z4 : wB 1 125 c = true := hz4; clear hz4
      by_cases hz5 : spB a c = true
      ·have z5 : spB a c = true := hz5; clear hz5
       have HR : Aside0 (chkB 4 a c v t n o = true) := ⟨by simp [chkB, z0, z1, z2, z3, z4, z5]⟩
       rw [HR.out]
       go_enter Try.func29, Try.ntmps29
       go_wp2_with (first | (go_at_call 43; refine (within_c _ _ _ _).mono ?_; rintro e w' ⟨rfl, rfl⟩) | (go_at_call 44; refine (span_c _ _ _).mono ?_; rintro e w' ⟨rfl, rfl⟩) | (go_at_call 45; refine (some_c A cc v _ _ _ _ ?hv).mono ?_; (case hv => (with_reducible repeat (first | refine Kd.C_alloc ?_ _ | refine Kd.C_drewN ?_ _ | refine Kd.C_drew ?_)); exact HV.out); rintro e w' ⟨rfl, rfl⟩) | (go_at_call 46; refine (all_c _ _ [n, o] _ _ ?hv).mono ?_; (case hv => exact row_C (xs := [n, o]) (new_blk (by simp)) (by simp)); rintro e w' ⟨rfl, rfl⟩))
       go_ret
       exact ⟨rfl, by repeat (first | exact Below.refl _ _ | apply below_alloc)⟩
      ·have z5 : spB a c = false := by simpa using hz5
       clear hz5
       have HR : Aside0 (chkB 4 a c v t n o = false) := ⟨by simp [chkB, z0, z1, z2, z3, z4, z5]⟩
       rw [HR.out]
       go_enter Try.func29, Try.ntmps29
       go_wp2_with (first | (go_at_call 43; refine (within_c _ _ _ _).mono ?_; rintro e w' ⟨rfl, rfl⟩) | (go_at_call 44; refine (span_c _ _ _).mono ?_; rintro e w' ⟨rfl, rfl⟩) | (go_at_call 45; refine (some_c A cc v _ _ _ _ ?hv).mono ?_; (case hv => (with_reducible repeat (first | refine Kd.C_alloc ?_ _ | refine Kd.C_drewN ?_ _ | refine Kd.C_drew ?_)); exact HV.out); rintro e w' ⟨rfl, rfl⟩) | (go_at_call 46; refine (all_c _ _ [n, o] _ _ ?hv).mono ?_; (case hv => exact row_C (xs := [n, o]) (new_blk (by simp)) (by simp)); rintro e w' ⟨rfl, rfl⟩))
       go_ret
       exact ⟨rfl, by repeat (first | exact Below.refl _ _ | apply below_alloc)⟩
     ·have z4 : wB 1 125 c = false := by simpa using hz4
      clear hz4
      have HR : Aside0 (chkB 4 a c v t n o = false) := ⟨by simp [chkB, z0, z1, z2, z3, z4]⟩
      rw [HR.out]
      go_enter Try.func29, Try.ntmps29
      go_wp2_with (first | (go_at_call 43; refine (within_c _ _ _ _).mono ?_; rintro e w' ⟨rfl, rfl⟩) | (go_at_call 44; refine (span_c _ _ _).mono ?_; rintro e w' ⟨rfl, rfl⟩) | (go_at_call 45; refine (some_c A cc v _ _ _ _ ?hv).mono ?_; (case hv => (with_reducible repeat (first | refine Kd.C_alloc ?_ _ | refine Kd.C_drewN ?_ _ | refine Kd.C_drew ?_)); exact HV.out); rintro e w' ⟨rfl, rfl⟩) | (go_at_call 46; refine (all_c _ _ [n, o] _ _ ?hv).mono ?_; (case hv => exact row_C (xs := [n, o]) (new_blk (by simp)) (by simp)); rintro e w' ⟨rfl, rfl⟩))
      go_ret
      exact ⟨rfl, by repeat (first | exact Below.refl _ _ | apply below_alloc)⟩
    ·have z3 : ((v.length : Int) == 0) = false := by simpa using hz3
     clear hz3
     have HR : Aside0 (chkB 4 a c v t n o = false) := ⟨by simp [chkB, z0, z1, z2, z3]⟩
     rw [HR.out]
     go_enter Try.func29, Try.ntmps29
     go_wp2_with (first | (go_at_call 43; refine (within_c _ _ _ _).mono ?_; rintro e w' ⟨rfl, rfl⟩) | (go_at_call 44; refine (span_c _ _ _).mono ?_; rintro e w' ⟨rfl, rfl⟩) | (go_at_call 45; refine (some_c A cc v _ _ _ _ ?hv).mono ?_; (case hv => (with_reducible repeat (first | refine Kd.C_alloc ?_ _ | refine Kd.C_drewN ?_ _ | refine Kd.C_drew ?_)); exact HV.out); rintro e w' ⟨rfl, rfl⟩) | (go_at_call 46; refine (all_c _ _ [n, o] _ _ ?hv).mono ?_; (case hv => exact row_C (xs := [n, o]) (new_blk (by simp)) (by simp)); rintro e w' ⟨rfl, rfl⟩))
     go_ret
     exact ⟨rfl, by repeat (first | exact Below.refl _ _ | apply below_alloc)⟩
   ·have z2 : (o == 0) = false := by simpa using hz2
    clear hz2
    have HR : Aside0 (chkB 4 a c v t n o = false) := ⟨by simp [chkB, z0, z1, z2]⟩
    rw [HR.out]
    go_enter Try.func29, Try.ntmps29
    go_wp2_with (first | (go_at_call 43; refine (within_c _ _ _ _).mono ?_; rintro e w' ⟨rfl, rfl⟩) | (go_at_call 44; refine (span_c _ _ _).mono ?_; rintro e w' ⟨rfl, rfl⟩) | (go_at_call 45; refine (some_c A cc v _ _ _ _ ?hv).mono ?_; (case hv => (with_reducible repeat (first | refine Kd.C_alloc ?_ _ | refine Kd.C_drewN ?_ _ | refine Kd.C_drew ?_)); exact HV.out); rintro e w' ⟨rfl, rfl⟩) | (go_at_call 46; refine (all_c _ _ [n, o] _ _ ?hv).mono ?_; (case hv => exact row_C (xs := [n, o]) (new_blk (by simp)) (by simp)); rintro e w' ⟨rfl, rfl⟩))
    go_ret
    exact ⟨rfl, by repeat (first | exact Below.refl _ _ | apply below_alloc)⟩
  ·have z1 : (n == 0) = false := by simpa using hz1
   clear hz1
   have HR : Aside0 (chkB 4 a c v t n o = false) := ⟨by simp [chkB, z0, z1]⟩
   rw [HR.out]
   go_enter Try.func29, Try.ntmps29
   go_wp2_with (first | (go_at_call 43; refine (within_c _ _ _ _).mono ?_; rintro e w' ⟨rfl, rfl⟩) | (go_at_call 44; refine (span_c _ _ _).mono ?_; rintro e w' ⟨rfl, rfl⟩) | (go_at_call 45; refine (some_c A cc v _ _ _ _ ?hv).mono ?_; (case hv => (with_reducible repeat (first | refine Kd.C_alloc ?_ _ | refine Kd.C_drewN ?_ _ | refine Kd.C_drew ?_)); exact HV.out); rintro e w' ⟨rfl, rfl⟩) | (go_at_call 46; refine (all_c _ _ [n, o] _ _ ?hv).mono ?_; (case hv => exact row_C (xs := [n, o]) (new_blk (by simp)) (by simp)); rintro e w' ⟨rfl, rfl⟩))
   go_ret
   exact ⟨rfl, by repeat (first | exact Below.refl _ _ | apply below_alloc)⟩
 ·have z0 : (t == 0) = false := by simpa using hz0
  clear hz0
  have HR : Aside0 (chkB 4 a c v t n o = false) := ⟨by simp [chkB, z0]⟩
  rw [HR.out]
  go_enter Try.func29, Try.ntmps29
  go_wp2_with (first | (go_at_call 43; refine (within_c _ _ _ _).mono ?_; rintro e w' ⟨rfl, rfl⟩) | (go_at_call 44; refine (span_c _ _ _).mono ?_; rintro e w' ⟨rfl, rfl⟩) | (go_at_call 45; refine (some_c A cc v _ _ _ _ ?hv).mono ?_; (case hv => (with_reducible repeat (first | refine Kd.C_alloc ?_ _ | refine Kd.C_drewN ?_ _ | refine Kd.C_drew ?_)); exact HV.out); rintro e w' ⟨rfl, rfl⟩) | (go_at_call 46; refine (all_c _ _ [n, o] _ _ ?hv).mono ?_; (case hv => exact row_C (xs := [n, o]) (new_blk (by simp)) (by simp)); rintro e w' ⟨rfl, rfl⟩))
  go_ret
  exact ⟨rfl, by repeat (first | exact Below.refl _ _ | apply below_alloc)⟩
end Go.Proofs.Ytlalpooiegganaa.Chk
end

section
namespace Go.Proofs.Ytlalpooiegganaa.Chk
open Go.RowKit Go.Proofs.YtlalpooiegganaaW.PrintWords Go.Proofs.YtlalpooiegganaaW.PrintLast Go.Proofs.YtlalpooiegganaaW.PrintMore Go.Proofs.Ytlalpooiegganaa.Core Go.Proofs.Ytlalpooiegganaa.Wk
set_option linter.unusedVariables false
set_option linter.unusedSimpArgs false
set_option maxHeartbeats 4000000 in
set_option maxRecDepth 100000 in
theorem chk_5 (a c : Int) (A : Option Addr) (cc : Nat) (v : List Int) (t n o : Int) (w : World) (hV : Kd.C (Kd.int .i64) w A v.length v) : Calls Try.prog 29 #[.agg #[.int .i64 5, .int .i64 a, .int .i64 c, .slice A v.length cc, .int .i64 t, .int .i64 n, .int .i64 o]] w fun e w' => e = .returned (.int .i64 (if chkB 5 a c v t n o then 0 else 1)) ∧ Below w.heap.size w w' := by
 have HV := Aside0.mk hV; clear hV
 by_cases hz0 : (t == 0) = true
 ·have z0 : (t == 0) = true := hz0; clear hz0
  by_cases hz1 : (n == 0) = true
  ·have z1 : (n == 0) = true := hz1; clear hz1
   by_cases hz2 : (o == 0) = true
   ·have z2 : (o == 0) = true := hz2; clear hz2
    by_cases hz3 : (c == 0) = true
    ·have z3 : (c == 0) = true := hz3; clear hz3
     by_cases hz4 : smB 1 1 1 v = true
     ·have z4 : smB 1 1 1 v = true := hz4; clear hz4; have pz4 := smB_len z4
      by_cases hz5 : spB a 1 = true
      ·have z5 : spB a 1 = true := hz5; clear hz5
       have HR : Aside0 (chkB 5 a c v t n o = true) := ⟨by simp [chkB, z0, z1, z2, z3, z4, z5]⟩
       rw [HR.out]
       go_enter Try.func29, Try.ntmps29
       go_wp2_with (first | (go_at_call 43; refine (within_c _ _ _ _).mono ?_; rintro e w' ⟨rfl, rfl⟩) | (go_at_call 44; refine (span_c _ _ _).mono ?_; rintro e w' ⟨rfl, rfl⟩) | (go_at_call 45; refine (some_c A cc v _ _ _ _ ?hv).mono ?_; (case hv => (with_reducible repeat (first | refine Kd.C_alloc ?_ _ | refine Kd.C_drewN ?_ _ | refine Kd.C_drew ?_)); exact HV.out); rintro e w' ⟨rfl, rfl⟩) | (go_at_call 46; refine (all_c _ _ [n, o] _ _ ?hv).mono ?_; (case hv => exact row_C (xs := [n, o]) (new_blk (by simp)) (by simp)); rintro e w' ⟨rfl, rfl⟩))
       go_ret
       exact ⟨rfl, by repeat (first | exact Below.refl _ _ | apply below_alloc)⟩
      ·have z5 : spB a 1 = false := by simpa using hz5
       clear hz5
       have HR : Aside0 (chkB 5 a c v t n o = false) := ⟨by simp [chkB, z0, z1, z2, z3, z4, z5]⟩
       rw [HR.out]
       go_enter Try.func29, Try.ntmps29
       go_wp2_with (first | (go_at_call 43; refine (within_c _ _ _ _).mono ?_; rintro e w' ⟨rfl, rfl⟩) | (go_at_call 44; refine (span_c _ _ _).mono ?_; rintro e w' ⟨rfl, rfl⟩) | (go_at_call 45; refine (some_c A cc v _ _ _ _ ?hv).mono ?_; (case hv => (with_reducible repeat (first | refine Kd.C_alloc ?_ _ | refine Kd.C_drewN ?_ _ | refine Kd.C_drew ?_)); exact HV.out); rintro e w' ⟨rfl, rfl⟩) | (go_at_call 46; refine (all_c _ _ [n, o] _ _ ?hv).mono ?_; (case hv => exact row_C (xs := [n, o]) (new_blk (by simp)) (by simp)); rintro e w' ⟨rfl, rfl⟩))
       go_ret
       exact ⟨rfl, by repeat (first | exact Below.refl _ _ | apply below_alloc)⟩
     ·have z4 : smB 1 1 1 v = false := by simpa using hz4
      clear hz4
      have HR : Aside0 (chkB 5 a c v t n o = false) := ⟨by simp [chkB, z0, z1, z2, z3, z4]⟩
      rw [HR.out]
      go_enter Try.func29, Try.ntmps29
      go_wp2_with (first | (go_at_call 43; refine (within_c _ _ _ _).mono ?_; rintro e w' ⟨rfl, rfl⟩) | (go_at_call 44; refine (span_c _ _ _).mono ?_; rintro e w' ⟨rfl, rfl⟩) | (go_at_call 45; refine (some_c A cc v _ _ _ _ ?hv).mono ?_; (case hv => (with_reducible repeat (first | refine Kd.C_alloc ?_ _ | refine Kd.C_drewN ?_ _ | refine Kd.C_drew ?_)); exact HV.out); rintro e w' ⟨rfl, rfl⟩) | (go_at_call 46; refine (all_c _ _ [n, o] _ _ ?hv).mono ?_; (case hv => exact row_C (xs := [n, o]) (new_blk (by simp)) (by simp)); rintro e w' ⟨rfl, rfl⟩))
      go_ret
      exact ⟨rfl, by repeat (first | exact Below.refl _ _ | apply below_alloc)⟩
    ·have z3 : (c == 0) = false := by simpa using hz3
     clear hz3
     have HR : Aside0 (chkB 5 a c v t n o = false) := ⟨by simp [chkB, z0, z1, z2, z3]⟩
     rw [HR.out]
     go_enter Try.func29, Try.ntmps29
     go_wp2_with (first | (go_at_call 43; refine (within_c _ _ _ _).mono ?_; rintro e w' ⟨rfl, rfl⟩) | (go_at_call 44; refine (span_c _ _ _).mono ?_; rintro e w' ⟨rfl, rfl⟩) | (go_at_call 45; refine (some_c A cc v _ _ _ _ ?hv).mono ?_; (case hv => (with_reducible repeat (first | refine Kd.C_alloc ?_ _ | refine Kd.C_drewN ?_ _ | refine Kd.C_drew ?_)); exact HV.out); rintro e w' ⟨rfl, rfl⟩) | (go_at_call 46; refine (all_c _ _ [n, o] _ _ ?hv).mono ?_; (case hv => exact row_C (xs := [n, o]) (new_blk (by simp)) (by simp)); rintro e w' ⟨rfl, rfl⟩))
     go_ret
     exact ⟨rfl, by repeat (first | exact Below.refl _ _ | apply below_alloc)⟩
   ·have z2 : (o == 0) = false := by simpa using hz2
    clear hz2
    have HR : Aside0 (chkB 5 a c v t n o = false) := ⟨by simp [chkB, z0, z1, z2]⟩
    rw [HR.out]
    go_enter Try.func29, Try.ntmps29
    go_wp2_with (first | (go_at_call 43; refine (within_c _ _ _ _).mono ?_; rintro e w' ⟨rfl, rfl⟩) | (go_at_call 44; refine (span_c _ _ _).mono ?_; rintro e w' ⟨rfl, rfl⟩) | (go_at_call 45; refine (some_c A cc v _ _ _ _ ?hv).mono ?_; (case hv => (with_reducible repeat (first | refine Kd.C_alloc ?_ _ | refine Kd.C_drewN ?_ _ | refine Kd.C_drew ?_)); exact HV.out); rintro e w' ⟨rfl, rfl⟩) | (go_at_call 46; refine (all_c _ _ [n, o] _ _ ?hv).mono ?_; (case hv => exact row_C (xs := [n, o]) (new_blk (by simp)) (by simp)); rintro e w' ⟨rfl, rfl⟩))
    go_ret
    exact ⟨rfl, by repeat (first | exact Below.refl _ _ | apply below_alloc)⟩
  ·have z1 : (n == 0) = false := by simpa using hz1
   clear hz1
   have HR : Aside0 (chkB 5 a c v t n o = false) := ⟨by simp [chkB, z0, z1]⟩
   rw [HR.out]
   go_enter Try.func29, Try.ntmps29
   go_wp2_with (first | (go_at_call 43; refine (within_c _ _ _ _).mono ?_; rintro e w' ⟨rfl, rfl⟩) | (go_at_call 44; refine (span_c _ _ _).mono ?_; rintro e w' ⟨rfl, rfl⟩) | (go_at_call 45; refine (some_c A cc v _ _ _ _ ?hv).mono ?_; (case hv => (with_reducible repeat (first | refine Kd.C_alloc ?_ _ | refine Kd.C_drewN ?_ _ | refine Kd.C_drew ?_)); exact HV.out); rintro e w' ⟨rfl, rfl⟩) | (go_at_call 46; refine (all_c _ _ [n, o] _ _ ?hv).mono ?_; (case hv => exact row_C (xs := [n, o]) (new_blk (by simp)) (by simp)); rintro e w' ⟨rfl, rfl⟩))
   go_ret
   exact ⟨rfl, by repeat (first | exact Below.refl _ _ | apply below_alloc)⟩
 ·have z0 : (t == 0) = false := by simpa using hz0
  clear hz0
  have HR : Aside0 (chkB 5 a c v t n o = false) := ⟨by simp [chkB, z0]⟩
  rw [HR.out]
  go_enter Try.func29, Try.ntmps29
  go_wp2_with (first | (go_at_call 43; refine (within_c _ _ _ _).mono ?_; rintro e w' ⟨rfl, rfl⟩) | (go_at_call 44; refine (span_c _ _ _).mono ?_; rintro e w' ⟨rfl, rfl⟩) | (go_at_call 45; refine (some_c A cc v _ _ _ _ ?hv).mono ?_; (case hv => (with_reducible repeat (first | refine Kd.C_alloc ?_ _ | refine Kd.C_drewN ?_ _ | refine Kd.C_drew ?_)); exact HV.out); rintro e w' ⟨rfl, rfl⟩) | (go_at_call 46; refine (all_c _ _ [n, o] _ _ ?hv).mono ?_; (case hv => exact row_C (xs := [n, o]) (new_blk (by simp)) (by simp)); rintro e w' ⟨rfl, rfl⟩))
  go_ret
  exact ⟨rfl, by repeat (first | exact Below.refl _ _ | apply below_alloc)⟩
set_option maxHeartbeats 4000000 in
set_option maxRecDepth 100000 in
theorem chk_6 (a c : Int) (A : Option Addr) (cc : Nat) (v : List Int) (t n o : Int) (w : World) (hV : Kd.C (Kd.int .i64) w A v.length v) : Calls Try.prog 29 #[.agg #[.int .i64 6, .int .i64 a, .int .i64 c, .slice A v.length cc, .int .i64 t, .int .i64 n, .int .i64 o]] w fun e w' => e = .returned (.int .i64 (if chkB 6 a c v t n o then 0 else 1)) ∧ Below w.heap.size w w' := by
 have HV := Aside0.mk hV; clear hV
 by_cases hz0 : (t == 0) = true
 ·have z0 : (t == 0) = true := hz0; clear hz0
  by_cases hz1 : (n == 0) = true
  ·have z1 : (n == 0) = true := hz1; clear hz1
   by_cases hz2 : (o == 0) = true
   ·have z2 : (o == 0) = true := hz2; clear hz2
    by_cases hz3 : (c == 0) = true
    ·have z3 : (c == 0) = true := hz3; clear hz3
     by_cases hz4 : smB 1 1 65535 v = true
     ·have z4 : smB 1 1 65535 v = true := hz4; clear hz4; have pz4 := smB_len z4
      by_cases hz5 : spB a 1 = true
      ·have z5 : spB a 1 = true := hz5; clear hz5
       have HR : Aside0 (chkB 6 a c v t n o = true) := ⟨by simp [chkB, z0, z1, z2, z3, z4, z5]⟩
       rw [HR.out]
       go_enter Try.func29, Try.ntmps29
       go_wp2_with (first | (go_at_call 43; refine (within_c _ _ _ _).mono ?_; rintro e w' ⟨rfl, rfl⟩) | (go_at_call 44; refine (span_c _ _ _).mono ?_; rintro e w' ⟨rfl, rfl⟩) | (go_at_call 45; refine (some_c A cc v _ _ _ _ ?hv).mono ?_; (case hv => (with_reducible repeat (first | refine Kd.C_alloc ?_ _ | refine Kd.C_drewN ?_ _ | refine Kd.C_drew ?_)); exact HV.out); rintro e w' ⟨rfl, rfl⟩) | (go_at_call 46; refine (all_c _ _ [n, o] _ _ ?hv).mono ?_; (case hv => exact row_C (xs := [n, o]) (new_blk (by simp)) (by simp)); rintro e w' ⟨rfl, rfl⟩))
       go_ret
       exact ⟨rfl, by repeat (first | exact Below.refl _ _ | apply below_alloc)⟩
      ·have z5 : spB a 1 = false := by simpa using hz5
       clear hz5
       have HR : Aside0 (chkB 6 a c v t n o = false) := ⟨by simp [chkB, z0, z1, z2, z3, z4, z5]⟩
       rw [HR.out]
       go_enter Try.func29, Try.ntmps29
       go_wp2_with (first | (go_at_call 43; refine (within_c _ _ _ _).mono ?_; rintro e w' ⟨rfl, rfl⟩) | (go_at_call 44; refine (span_c _ _ _).mono ?_; rintro e w' ⟨rfl, rfl⟩) | (go_at_call 45; refine (some_c A cc v _ _ _ _ ?hv).mono ?_; (case hv => (with_reducible repeat (first | refine Kd.C_alloc ?_ _ | refine Kd.C_drewN ?_ _ | refine Kd.C_drew ?_)); exact HV.out); rintro e w' ⟨rfl, rfl⟩) | (go_at_call 46; refine (all_c _ _ [n, o] _ _ ?hv).mono ?_; (case hv => exact row_C (xs := [n, o]) (new_blk (by simp)) (by simp)); rintro e w' ⟨rfl, rfl⟩))
       go_ret
       exact ⟨rfl, by repeat (first | exact Below.refl _ _ | apply below_alloc)⟩
     ·have z4 : smB 1 1 65535 v = false := by simpa using hz4
      clear hz4
      have HR : Aside0 (chkB 6 a c v t n o = false) := ⟨by simp [chkB, z0, z1, z2, z3, z4]⟩
      rw [HR.out]
      go_enter Try.func29, Try.ntmps29
      go_wp2_with (first | (go_at_call 43; refine (within_c _ _ _ _).mono ?_; rintro e w' ⟨rfl, rfl⟩) | (go_at_call 44; refine (span_c _ _ _).mono ?_; rintro e w' ⟨rfl, rfl⟩) | (go_at_call 45; refine (some_c A cc v _ _ _ _ ?hv).mono ?_; (case hv => (with_reducible repeat (first | refine Kd.C_alloc ?_ _ | refine Kd.C_drewN ?_ _ | refine Kd.C_drew ?_)); exact HV.out); rintro e w' ⟨rfl, rfl⟩) | (go_at_call 46; refine (all_c _ _ [n, o] _ _ ?hv).mono ?_; (case hv => exact row_C (xs := [n, o]) (new_blk (by simp)) (by simp)); rintro e w' ⟨rfl, rfl⟩))
      go_ret
      exact ⟨rfl, by repeat (first | exact Below.refl _ _ | apply below_alloc)⟩
    ·have z3 : (c == 0) = false := by simpa using hz3
     clear hz3
     have HR : Aside0 (chkB 6 a c v t n o = false) := ⟨by simp [chkB, z0, z1, z2, z3]⟩
     rw [HR.out]
     go_enter Try.func29, Try.ntmps29
     go_wp2_with (first | (go_at_call 43; refine (within_c _ _ _ _).mono ?_; rintro e w' ⟨rfl, rfl⟩) | (go_at_call 44; refine (span_c _ _ _).mono ?_; rintro e w' ⟨rfl, rfl⟩) | (go_at_call 45; refine (some_c A cc v _ _ _ _ ?hv).mono ?_; (case hv => (with_reducible repeat (first | refine Kd.C_alloc ?_ _ | refine Kd.C_drewN ?_ _ | refine Kd.C_drew ?_)); exact HV.out); rintro e w' ⟨rfl, rfl⟩) | (go_at_call 46; refine (all_c _ _ [n, o] _ _ ?hv).mono ?_; (case hv => exact row_C (xs := [n, o]) (new_blk (by simp)) (by simp)); rintro e w' ⟨rfl, rfl⟩))
     go_ret
     exact ⟨rfl, by repeat (first | exact Below.refl _ _ | apply below_alloc)⟩
   ·have z2 : (o == 0) = false := by simpa using hz2
    clear hz2
    have HR : Aside0 (chkB 6 a c v t n o = false) := ⟨by simp [chkB, z0, z1, z2]⟩
    rw [HR.out]
    go_enter Try.func29, Try.ntmps29
    go_wp2_with (first | (go_at_call 43; refine (within_c _ _ _ _).mono ?_; rintro e w' ⟨rfl, rfl⟩) | (go_at_call 44; refine (span_c _ _ _).mono ?_; rintro e w' ⟨rfl, rfl⟩) | (go_at_call 45; refine (some_c A cc v _ _ _ _ ?hv).mono ?_; (case hv => (with_reducible repeat (first | refine Kd.C_alloc ?_ _ | refine Kd.C_drewN ?_ _ | refine Kd.C_drew ?_)); exact HV.out); rintro e w' ⟨rfl, rfl⟩) | (go_at_call 46; refine (all_c _ _ [n, o] _ _ ?hv).mono ?_; (case hv => exact row_C (xs := [n, o]) (new_blk (by simp)) (by simp)); rintro e w' ⟨rfl, rfl⟩))
    go_ret
    exact ⟨rfl, by repeat (first | exact Below.refl _ _ | apply below_alloc)⟩
  ·have z1 : (n == 0) = false := by simpa using hz1
   clear hz1
   have HR : Aside0 (chkB 6 a c v t n o = false) := ⟨by simp [chkB, z0, z1]⟩
   rw [HR.out]
   go_enter Try.func29, Try.ntmps29
   go_wp2_with (first | (go_at_call 43; refine (within_c _ _ _ _).mono ?_; rintro e w' ⟨rfl, rfl⟩) | (go_at_call 44; refine (span_c _ _ _).mono ?_; rintro e w' ⟨rfl, rfl⟩) | (go_at_call 45; refine (some_c A cc v _ _ _ _ ?hv).mono ?_; (case hv => (with_reducible repeat (first | refine Kd.C_alloc ?_ _ | refine Kd.C_drewN ?_ _ | refine Kd.C_drew ?_)); exact HV.out); rintro e w' ⟨rfl, rfl⟩) | (go_at_call 46; refine (all_c _ _ [n, o] _ _ ?hv).mono ?_; (case hv => exact row_C (xs := [n, o]) (new_blk (by simp)) (by simp)); rintro e w' ⟨rfl, rfl⟩))
   go_ret
   exact ⟨rfl, by repeat (first | exact Below.refl _ _ | apply below_alloc)⟩
 ·have z0 : (t == 0) = false := by simpa using hz0
  clear hz0
  have HR : Aside0 (chkB 6 a c v t n o = false) := ⟨by simp [chkB, z0]⟩
  rw [HR.out]
  go_enter Try.func29, Try.ntmps29
  go_wp2_with (first | (go_at_call 43; refine (within_c _ _ _ _).mono ?_; rintro e w' ⟨rfl, rfl⟩) | (go_at_call 44; refine (span_c _ _ _).mono ?_; rintro e w' ⟨rfl, rfl⟩) | (go_at_call 45; refine (some_c A cc v _ _ _ _ ?hv).mono ?_; (case hv => (with_reducible repeat (first | refine Kd.C_alloc ?_ _ | refine Kd.C_drewN ?_ _ | refine Kd.C_drew ?_)); exact HV.out); rintro e w' ⟨rfl, rfl⟩) | (go_at_call 46; refine (all_c _ _ [n, o] _ _ ?hv).mono ?_; (case hv => exact row_C (xs := [n, o]) (new_blk (by simp)) (by simp)); rintro e w' ⟨rfl, rfl⟩))
  go_ret
  exact ⟨rfl, by repeat (first | exact Below.refl _ _ | apply below_alloc)⟩
end Go.Proofs.Ytlalpooiegganaa.Chk
end

section
namespace Go.Proofs.Ytlalpooiegganaa.Chk
open Go.RowKit Go.Proofs.YtlalpooiegganaaW.PrintWords Go.Proofs.YtlalpooiegganaaW.PrintLast Go.Proofs.YtlalpooiegganaaW.PrintMore Go.Proofs.Ytlalpooiegganaa.Core Go.Proofs.Ytlalpooiegganaa.Wk
set_option linter.unusedVariables false
set_option linter.unusedSimpArgs false
set_option maxHeartbeats 4000000 in
set_option maxRecDepth 100000 in
theorem chk_15 (a c : Int) (A : Option Addr) (cc : Nat) (v : List Int) (t n o : Int) (w : World) (hV : Kd.C (Kd.int .i64) w A v.length v) : Calls Try.prog 29 #[.agg #[.int .i64 15, .int .i64 a, .int .i64 c, .slice A v.length cc, .int .i64 t, .int .i64 n, .int .i64 o]] w fun e w' => e = .returned (.int .i64 (if chkB 15 a c v t n o then 0 else 1)) ∧ Below w.heap.size w w' := by
 have HV := Aside0.mk hV; clear hV
 by_cases hz0 : (t == 0) = true
 ·have z0 : (t == 0) = true := hz0; clear hz0
  by_cases hz1 : (n == 0) = true
  ·have z1 : (n == 0) = true := hz1; clear hz1
   by_cases hz2 : (o == 0) = true
   ·have z2 : (o == 0) = true := hz2; clear hz2
    by_cases hz3 : (c == (v.length : Int)) = true
    ·have z3 : (c == (v.length : Int)) = true := hz3; clear hz3
     by_cases hz4 : smB 1 1968 1 v = true
     ·have z4 : smB 1 1968 1 v = true := hz4; clear hz4; have pz4 := smB_len z4
      by_cases hz5 : spB a v.length = true
      ·have z5 : spB a v.length = true := hz5; clear hz5
       have HR : Aside0 (chkB 15 a c v t n o = true) := ⟨by simp [chkB, z0, z1, z2, z3, z4, z5]⟩
       rw [HR.out]
       go_enter Try.func29, Try.ntmps29
       go_wp2_with (first | (go_at_call 43; refine (within_c _ _ _ _).mono ?_; rintro e w' ⟨rfl, rfl⟩) | (go_at_call 44; refine (span_c _ _ _).mono ?_; rintro e w' ⟨rfl, rfl⟩) | (go_at_call 45; refine (some_c A cc v _ _ _ _ ?hv).mono ?_; (case hv => (with_reducible repeat (first | refine Kd.C_alloc ?_ _ | refine Kd.C_drewN ?_ _ | refine Kd.C_drew ?_)); exact HV.out); rintro e w' ⟨rfl, rfl⟩) | (go_at_call 46; refine (all_c _ _ [n, o] _ _ ?hv).mono ?_; (case hv => exact row_C (xs := [n, o]) (new_blk (by simp)) (by simp)); rintro e w' ⟨rfl, rfl⟩))
       go_ret
       exact ⟨rfl, by repeat (first | exact Below.refl _ _ | apply below_alloc)⟩
      ·have z5 : spB a v.length = false := by simpa using hz5
       clear hz5
       have HR : Aside0 (chkB 15 a c v t n o = false) := ⟨by simp [chkB, z0, z1, z2, z3, z4, z5]⟩
       rw [HR.out]
       go_enter Try.func29, Try.ntmps29
       go_wp2_with (first | (go_at_call 43; refine (within_c _ _ _ _).mono ?_; rintro e w' ⟨rfl, rfl⟩) | (go_at_call 44; refine (span_c _ _ _).mono ?_; rintro e w' ⟨rfl, rfl⟩) | (go_at_call 45; refine (some_c A cc v _ _ _ _ ?hv).mono ?_; (case hv => (with_reducible repeat (first | refine Kd.C_alloc ?_ _ | refine Kd.C_drewN ?_ _ | refine Kd.C_drew ?_)); exact HV.out); rintro e w' ⟨rfl, rfl⟩) | (go_at_call 46; refine (all_c _ _ [n, o] _ _ ?hv).mono ?_; (case hv => exact row_C (xs := [n, o]) (new_blk (by simp)) (by simp)); rintro e w' ⟨rfl, rfl⟩))
       go_ret
       exact ⟨rfl, by repeat (first | exact Below.refl _ _ | apply below_alloc)⟩
     ·have z4 : smB 1 1968 1 v = false := by simpa using hz4
      clear hz4
      have HR : Aside0 (chkB 15 a c v t n o = false) := ⟨by simp [chkB, z0, z1, z2, z3, z4]⟩
      rw [HR.out]
      go_enter Try.func29, Try.ntmps29
      go_wp2_with (first | (go_at_call 43; refine (within_c _ _ _ _).mono ?_; rintro e w' ⟨rfl, rfl⟩) | (go_at_call 44; refine (span_c _ _ _).mono ?_; rintro e w' ⟨rfl, rfl⟩) | (go_at_call 45; refine (some_c A cc v _ _ _ _ ?hv).mono ?_; (case hv => (with_reducible repeat (first | refine Kd.C_alloc ?_ _ | refine Kd.C_drewN ?_ _ | refine Kd.C_drew ?_)); exact HV.out); rintro e w' ⟨rfl, rfl⟩) | (go_at_call 46; refine (all_c _ _ [n, o] _ _ ?hv).mono ?_; (case hv => exact row_C (xs := [n, o]) (new_blk (by simp)) (by simp)); rintro e w' ⟨rfl, rfl⟩))
      go_ret
      exact ⟨rfl, by repeat (first | exact Below.refl _ _ | apply below_alloc)⟩
    ·have z3 : (c == (v.length : Int)) = false := by simpa using hz3
     clear hz3
     have HR : Aside0 (chkB 15 a c v t n o = false) := ⟨by simp [chkB, z0, z1, z2, z3]⟩
     rw [HR.out]
     go_enter Try.func29, Try.ntmps29
     go_wp2_with (first | (go_at_call 43; refine (within_c _ _ _ _).mono ?_; rintro e w' ⟨rfl, rfl⟩) | (go_at_call 44; refine (span_c _ _ _).mono ?_; rintro e w' ⟨rfl, rfl⟩) | (go_at_call 45; refine (some_c A cc v _ _ _ _ ?hv).mono ?_; (case hv => (with_reducible repeat (first | refine Kd.C_alloc ?_ _ | refine Kd.C_drewN ?_ _ | refine Kd.C_drew ?_)); exact HV.out); rintro e w' ⟨rfl, rfl⟩) | (go_at_call 46; refine (all_c _ _ [n, o] _ _ ?hv).mono ?_; (case hv => exact row_C (xs := [n, o]) (new_blk (by simp)) (by simp)); rintro e w' ⟨rfl, rfl⟩))
     go_ret
     exact ⟨rfl, by repeat (first | exact Below.refl _ _ | apply below_alloc)⟩
   ·have z2 : (o == 0) = false := by simpa using hz2
    clear hz2
    have HR : Aside0 (chkB 15 a c v t n o = false) := ⟨by simp [chkB, z0, z1, z2]⟩
    rw [HR.out]
    go_enter Try.func29, Try.ntmps29
    go_wp2_with (first | (go_at_call 43; refine (within_c _ _ _ _).mono ?_; rintro e w' ⟨rfl, rfl⟩) | (go_at_call 44; refine (span_c _ _ _).mono ?_; rintro e w' ⟨rfl, rfl⟩) | (go_at_call 45; refine (some_c A cc v _ _ _ _ ?hv).mono ?_; (case hv => (with_reducible repeat (first | refine Kd.C_alloc ?_ _ | refine Kd.C_drewN ?_ _ | refine Kd.C_drew ?_)); exact HV.out); rintro e w' ⟨rfl, rfl⟩) | (go_at_call 46; refine (all_c _ _ [n, o] _ _ ?hv).mono ?_; (case hv => exact row_C (xs := [n, o]) (new_blk (by simp)) (by simp)); rintro e w' ⟨rfl, rfl⟩))
    go_ret
    exact ⟨rfl, by repeat (first | exact Below.refl _ _ | apply below_alloc)⟩
  ·have z1 : (n == 0) = false := by simpa using hz1
   clear hz1
   have HR : Aside0 (chkB 15 a c v t n o = false) := ⟨by simp [chkB, z0, z1]⟩
   rw [HR.out]
   go_enter Try.func29, Try.ntmps29
   go_wp2_with (first | (go_at_call 43; refine (within_c _ _ _ _).mono ?_; rintro e w' ⟨rfl, rfl⟩) | (go_at_call 44; refine (span_c _ _ _).mono ?_; rintro e w' ⟨rfl, rfl⟩) | (go_at_call 45; refine (some_c A cc v _ _ _ _ ?hv).mono ?_; (case hv => (with_reducible repeat (first | refine Kd.C_alloc ?_ _ | refine Kd.C_drewN ?_ _ | refine Kd.C_drew ?_)); exact HV.out); rintro e w' ⟨rfl, rfl⟩) | (go_at_call 46; refine (all_c _ _ [n, o] _ _ ?hv).mono ?_; (case hv => exact row_C (xs := [n, o]) (new_blk (by simp)) (by simp)); rintro e w' ⟨rfl, rfl⟩))
   go_ret
   exact ⟨rfl, by repeat (first | exact Below.refl _ _ | apply below_alloc)⟩
 ·have z0 : (t == 0) = false := by simpa using hz0
  clear hz0
  have HR : Aside0 (chkB 15 a c v t n o = false) := ⟨by simp [chkB, z0]⟩
  rw [HR.out]
  go_enter Try.func29, Try.ntmps29
  go_wp2_with (first | (go_at_call 43; refine (within_c _ _ _ _).mono ?_; rintro e w' ⟨rfl, rfl⟩) | (go_at_call 44; refine (span_c _ _ _).mono ?_; rintro e w' ⟨rfl, rfl⟩) | (go_at_call 45; refine (some_c A cc v _ _ _ _ ?hv).mono ?_; (case hv => (with_reducible repeat (first | refine Kd.C_alloc ?_ _ | refine Kd.C_drewN ?_ _ | refine Kd.C_drew ?_)); exact HV.out); rintro e w' ⟨rfl, rfl⟩) | (go_at_call 46; refine (all_c _ _ [n, o] _ _ ?hv).mono ?_; (case hv => exact row_C (xs := [n, o]) (new_blk (by simp)) (by simp)); rintro e w' ⟨rfl, rfl⟩))
  go_ret
  exact ⟨rfl, by repeat (first | exact Below.refl _ _ | apply below_alloc)⟩
set_option maxHeartbeats 4000000 in
set_option maxRecDepth 100000 in
theorem chk_16 (a c : Int) (A : Option Addr) (cc : Nat) (v : List Int) (t n o : Int) (w : World) (hV : Kd.C (Kd.int .i64) w A v.length v) : Calls Try.prog 29 #[.agg #[.int .i64 16, .int .i64 a, .int .i64 c, .slice A v.length cc, .int .i64 t, .int .i64 n, .int .i64 o]] w fun e w' => e = .returned (.int .i64 (if chkB 16 a c v t n o then 0 else 1)) ∧ Below w.heap.size w w' := by
 have HV := Aside0.mk hV; clear hV
 by_cases hz0 : (t == 0) = true
 ·have z0 : (t == 0) = true := hz0; clear hz0
  by_cases hz1 : (n == 0) = true
  ·have z1 : (n == 0) = true := hz1; clear hz1
   by_cases hz2 : (o == 0) = true
   ·have z2 : (o == 0) = true := hz2; clear hz2
    by_cases hz3 : (c == (v.length : Int)) = true
    ·have z3 : (c == (v.length : Int)) = true := hz3; clear hz3
     by_cases hz4 : smB 1 123 65535 v = true
     ·have z4 : smB 1 123 65535 v = true := hz4; clear hz4; have pz4 := smB_len z4
      by_cases hz5 : spB a v.length = true
      ·have z5 : spB a v.length = true := hz5; clear hz5
       have HR : Aside0 (chkB 16 a c v t n o = true) := ⟨by simp [chkB, z0, z1, z2, z3, z4, z5]⟩
       rw [HR.out]
       go_enter Try.func29, Try.ntmps29
       go_wp2_with (first | (go_at_call 43; refine (within_c _ _ _ _).mono ?_; rintro e w' ⟨rfl, rfl⟩) | (go_at_call 44; refine (span_c _ _ _).mono ?_; rintro e w' ⟨rfl, rfl⟩) | (go_at_call 45; refine (some_c A cc v _ _ _ _ ?hv).mono ?_; (case hv => (with_reducible repeat (first | refine Kd.C_alloc ?_ _ | refine Kd.C_drewN ?_ _ | refine Kd.C_drew ?_)); exact HV.out); rintro e w' ⟨rfl, rfl⟩) | (go_at_call 46; refine (all_c _ _ [n, o] _ _ ?hv).mono ?_; (case hv => exact row_C (xs := [n, o]) (new_blk (by simp)) (by simp)); rintro e w' ⟨rfl, rfl⟩))
       go_ret
       exact ⟨rfl, by repeat (first | exact Below.refl _ _ | apply below_alloc)⟩
      ·have z5 : spB a v.length = false := by simpa using hz5
       clear hz5
       have HR : Aside0 (chkB 16 a c v t n o = false) := ⟨by simp [chkB, z0, z1, z2, z3, z4, z5]⟩
       rw [HR.out]
       go_enter Try.func29, Try.ntmps29
       go_wp2_with (first | (go_at_call 43; refine (within_c _ _ _ _).mono ?_; rintro e w' ⟨rfl, rfl⟩) | (go_at_call 44; refine (span_c _ _ _).mono ?_; rintro e w' ⟨rfl, rfl⟩) | (go_at_call 45; refine (some_c A cc v _ _ _ _ ?hv).mono ?_; (case hv => (with_reducible repeat (first | refine Kd.C_alloc ?_ _ | refine Kd.C_drewN ?_ _ | refine Kd.C_drew ?_)); exact HV.out); rintro e w' ⟨rfl, rfl⟩) | (go_at_call 46; refine (all_c _ _ [n, o] _ _ ?hv).mono ?_; (case hv => exact row_C (xs := [n, o]) (new_blk (by simp)) (by simp)); rintro e w' ⟨rfl, rfl⟩))
       go_ret
       exact ⟨rfl, by repeat (first | exact Below.refl _ _ | apply below_alloc)⟩
     ·have z4 : smB 1 123 65535 v = false := by simpa using hz4
      clear hz4
      have HR : Aside0 (chkB 16 a c v t n o = false) := ⟨by simp [chkB, z0, z1, z2, z3, z4]⟩
      rw [HR.out]
      go_enter Try.func29, Try.ntmps29
      go_wp2_with (first | (go_at_call 43; refine (within_c _ _ _ _).mono ?_; rintro e w' ⟨rfl, rfl⟩) | (go_at_call 44; refine (span_c _ _ _).mono ?_; rintro e w' ⟨rfl, rfl⟩) | (go_at_call 45; refine (some_c A cc v _ _ _ _ ?hv).mono ?_; (case hv => (with_reducible repeat (first | refine Kd.C_alloc ?_ _ | refine Kd.C_drewN ?_ _ | refine Kd.C_drew ?_)); exact HV.out); rintro e w' ⟨rfl, rfl⟩) | (go_at_call 46; refine (all_c _ _ [n, o] _ _ ?hv).mono ?_; (case hv => exact row_C (xs := [n, o]) (new_blk (by simp)) (by simp)); rintro e w' ⟨rfl, rfl⟩))
      go_ret
      exact ⟨rfl, by repeat (first | exact Below.refl _ _ | apply below_alloc)⟩
    ·have z3 : (c == (v.length : Int)) = false := by simpa using hz3
     clear hz3
     have HR : Aside0 (chkB 16 a c v t n o = false) := ⟨by simp [chkB, z0, z1, z2, z3]⟩
     rw [HR.out]
     go_enter Try.func29, Try.ntmps29
     go_wp2_with (first | (go_at_call 43; refine (within_c _ _ _ _).mono ?_; rintro e w' ⟨rfl, rfl⟩) | (go_at_call 44; refine (span_c _ _ _).mono ?_; rintro e w' ⟨rfl, rfl⟩) | (go_at_call 45; refine (some_c A cc v _ _ _ _ ?hv).mono ?_; (case hv => (with_reducible repeat (first | refine Kd.C_alloc ?_ _ | refine Kd.C_drewN ?_ _ | refine Kd.C_drew ?_)); exact HV.out); rintro e w' ⟨rfl, rfl⟩) | (go_at_call 46; refine (all_c _ _ [n, o] _ _ ?hv).mono ?_; (case hv => exact row_C (xs := [n, o]) (new_blk (by simp)) (by simp)); rintro e w' ⟨rfl, rfl⟩))
     go_ret
     exact ⟨rfl, by repeat (first | exact Below.refl _ _ | apply below_alloc)⟩
   ·have z2 : (o == 0) = false := by simpa using hz2
    clear hz2
    have HR : Aside0 (chkB 16 a c v t n o = false) := ⟨by simp [chkB, z0, z1, z2]⟩
    rw [HR.out]
    go_enter Try.func29, Try.ntmps29
    go_wp2_with (first | (go_at_call 43; refine (within_c _ _ _ _).mono ?_; rintro e w' ⟨rfl, rfl⟩) | (go_at_call 44; refine (span_c _ _ _).mono ?_; rintro e w' ⟨rfl, rfl⟩) | (go_at_call 45; refine (some_c A cc v _ _ _ _ ?hv).mono ?_; (case hv => (with_reducible repeat (first | refine Kd.C_alloc ?_ _ | refine Kd.C_drewN ?_ _ | refine Kd.C_drew ?_)); exact HV.out); rintro e w' ⟨rfl, rfl⟩) | (go_at_call 46; refine (all_c _ _ [n, o] _ _ ?hv).mono ?_; (case hv => exact row_C (xs := [n, o]) (new_blk (by simp)) (by simp)); rintro e w' ⟨rfl, rfl⟩))
    go_ret
    exact ⟨rfl, by repeat (first | exact Below.refl _ _ | apply below_alloc)⟩
  ·have z1 : (n == 0) = false := by simpa using hz1
   clear hz1
   have HR : Aside0 (chkB 16 a c v t n o = false) := ⟨by simp [chkB, z0, z1]⟩
   rw [HR.out]
   go_enter Try.func29, Try.ntmps29
   go_wp2_with (first | (go_at_call 43; refine (within_c _ _ _ _).mono ?_; rintro e w' ⟨rfl, rfl⟩) | (go_at_call 44; refine (span_c _ _ _).mono ?_; rintro e w' ⟨rfl, rfl⟩) | (go_at_call 45; refine (some_c A cc v _ _ _ _ ?hv).mono ?_; (case hv => (with_reducible repeat (first | refine Kd.C_alloc ?_ _ | refine Kd.C_drewN ?_ _ | refine Kd.C_drew ?_)); exact HV.out); rintro e w' ⟨rfl, rfl⟩) | (go_at_call 46; refine (all_c _ _ [n, o] _ _ ?hv).mono ?_; (case hv => exact row_C (xs := [n, o]) (new_blk (by simp)) (by simp)); rintro e w' ⟨rfl, rfl⟩))
   go_ret
   exact ⟨rfl, by repeat (first | exact Below.refl _ _ | apply below_alloc)⟩
 ·have z0 : (t == 0) = false := by simpa using hz0
  clear hz0
  have HR : Aside0 (chkB 16 a c v t n o = false) := ⟨by simp [chkB, z0]⟩
  rw [HR.out]
  go_enter Try.func29, Try.ntmps29
  go_wp2_with (first | (go_at_call 43; refine (within_c _ _ _ _).mono ?_; rintro e w' ⟨rfl, rfl⟩) | (go_at_call 44; refine (span_c _ _ _).mono ?_; rintro e w' ⟨rfl, rfl⟩) | (go_at_call 45; refine (some_c A cc v _ _ _ _ ?hv).mono ?_; (case hv => (with_reducible repeat (first | refine Kd.C_alloc ?_ _ | refine Kd.C_drewN ?_ _ | refine Kd.C_drew ?_)); exact HV.out); rintro e w' ⟨rfl, rfl⟩) | (go_at_call 46; refine (all_c _ _ [n, o] _ _ ?hv).mono ?_; (case hv => exact row_C (xs := [n, o]) (new_blk (by simp)) (by simp)); rintro e w' ⟨rfl, rfl⟩))
  go_ret
  exact ⟨rfl, by repeat (first | exact Below.refl _ _ | apply below_alloc)⟩
end Go.Proofs.Ytlalpooiegganaa.Chk
end

section
namespace Go.Proofs.Ytlalpooiegganaa.Chk
open Go.RowKit Go.Proofs.YtlalpooiegganaaW.PrintWords Go.Proofs.YtlalpooiegganaaW.PrintLast Go.Proofs.YtlalpooiegganaaW.PrintMore Go.Proofs.Ytlalpooiegganaa.Core Go.Proofs.Ytlalpooiegganaa.Wk
set_option linter.unusedVariables false
set_option linter.unusedSimpArgs false
set_option maxHeartbeats 4000000 in
set_option maxRecDepth 100000 in
theorem chk_22 (a c : Int) (A : Option Addr) (cc : Nat) (v : List Int) (t n o : Int) (w : World) (hV : Kd.C (Kd.int .i64) w A v.length v) : Calls Try.prog 29 #[.agg #[.int .i64 22, .int .i64 a, .int .i64 c, .slice A v.length cc, .int .i64 t, .int .i64 n, .int .i64 o]] w fun e w' => e = .returned (.int .i64 (if chkB 22 a c v t n o then 0 else 1)) ∧ Below w.heap.size w w' := by
 have HV := Aside0.mk hV; clear hV
 by_cases hz0 : (t == 0) = true
 ·have z0 : (t == 0) = true := hz0; clear hz0
  by_cases hz1 : (n == 0) = true
  ·have z1 : (n == 0) = true := hz1; clear hz1
   by_cases hz2 : (o == 0) = true
   ·have z2 : (o == 0) = true := hz2; clear hz2
    by_cases hz3 : ((v.length : Int) == 0) = true
    ·have z3 : ((v.length : Int) == 0) = true := hz3; clear hz3
     by_cases hz4 : (c == 0) = true
     ·have z4 : (c == 0) = true := hz4; clear hz4
      by_cases hz5 : spB a 1 = true
      ·have z5 : spB a 1 = true := hz5; clear hz5
       by_cases hz6 : lowB 65535 [n, o] = true
       ·have z6 : lowB 65535 [n, o] = true := hz6; clear hz6
        have HR : Aside0 (chkB 22 a c v t n o = true) := ⟨by have hlw := low_two n o; simp_all [chkB]⟩
        rw [HR.out]
        go_enter Try.func29, Try.ntmps29
        go_wp2_with (first | (go_at_call 43; refine (within_c _ _ _ _).mono ?_; rintro e w' ⟨rfl, rfl⟩) | (go_at_call 44; refine (span_c _ _ _).mono ?_; rintro e w' ⟨rfl, rfl⟩) | (go_at_call 45; refine (some_c A cc v _ _ _ _ ?hv).mono ?_; (case hv => (with_reducible repeat (first | refine Kd.C_alloc ?_ _ | refine Kd.C_drewN ?_ _ | refine Kd.C_drew ?_)); exact HV.out); rintro e w' ⟨rfl, rfl⟩) | (go_at_call 46; refine (all_c _ _ [n, o] _ _ ?hv).mono ?_; (case hv => exact row_C (xs := [n, o]) (new_blk (by simp)) (by simp)); rintro e w' ⟨rfl, rfl⟩))
        go_ret
        exact ⟨rfl, by repeat (first | exact Below.refl _ _ | apply below_alloc)⟩
       ·have z6 : lowB 65535 [n, o] = false := by simpa using hz6
        clear hz6
        have HR : Aside0 (chkB 22 a c v t n o = false) := ⟨by have hlw := low_two n o; simp_all [chkB]⟩
        rw [HR.out]
        go_enter Try.func29, Try.ntmps29
        go_wp2_with (first | (go_at_call 43; refine (within_c _ _ _ _).mono ?_; rintro e w' ⟨rfl, rfl⟩) | (go_at_call 44; refine (span_c _ _ _).mono ?_; rintro e w' ⟨rfl, rfl⟩) | (go_at_call 45; refine (some_c A cc v _ _ _ _ ?hv).mono ?_; (case hv => (with_reducible repeat (first | refine Kd.C_alloc ?_ _ | refine Kd.C_drewN ?_ _ | refine Kd.C_drew ?_)); exact HV.out); rintro e w' ⟨rfl, rfl⟩) | (go_at_call 46; refine (all_c _ _ [n, o] _ _ ?hv).mono ?_; (case hv => exact row_C (xs := [n, o]) (new_blk (by simp)) (by simp)); rintro e w' ⟨rfl, rfl⟩))
        go_ret
        exact ⟨rfl, by repeat (first | exact Below.refl _ _ | apply below_alloc)⟩
      ·have z5 : spB a 1 = false := by simpa using hz5
       clear hz5
       have HR : Aside0 (chkB 22 a c v t n o = false) := ⟨by have hlw := low_two n o; simp_all [chkB]⟩
       rw [HR.out]
       go_enter Try.func29, Try.ntmps29
       go_wp2_with (first | (go_at_call 43; refine (within_c _ _ _ _).mono ?_; rintro e w' ⟨rfl, rfl⟩) | (go_at_call 44; refine (span_c _ _ _).mono ?_; rintro e w' ⟨rfl, rfl⟩) | (go_at_call 45; refine (some_c A cc v _ _ _ _ ?hv).mono ?_; (case hv => (with_reducible repeat (first | refine Kd.C_alloc ?_ _ | refine Kd.C_drewN ?_ _ | refine Kd.C_drew ?_)); exact HV.out); rintro e w' ⟨rfl, rfl⟩) | (go_at_call 46; refine (all_c _ _ [n, o] _ _ ?hv).mono ?_; (case hv => exact row_C (xs := [n, o]) (new_blk (by simp)) (by simp)); rintro e w' ⟨rfl, rfl⟩))
       go_ret
       exact ⟨rfl, by repeat (first | exact Below.refl _ _ | apply below_alloc)⟩
     ·have z4 : (c == 0) = false := by simpa using hz4
      clear hz4
      have HR : Aside0 (chkB 22 a c v t n o = false) := ⟨by have hlw := low_two n o; simp_all [chkB]⟩
      rw [HR.out]
      go_enter Try.func29, Try.ntmps29
      go_wp2_with (first | (go_at_call 43; refine (within_c _ _ _ _).mono ?_; rintro e w' ⟨rfl, rfl⟩) | (go_at_call 44; refine (span_c _ _ _).mono ?_; rintro e w' ⟨rfl, rfl⟩) | (go_at_call 45; refine (some_c A cc v _ _ _ _ ?hv).mono ?_; (case hv => (with_reducible repeat (first | refine Kd.C_alloc ?_ _ | refine Kd.C_drewN ?_ _ | refine Kd.C_drew ?_)); exact HV.out); rintro e w' ⟨rfl, rfl⟩) | (go_at_call 46; refine (all_c _ _ [n, o] _ _ ?hv).mono ?_; (case hv => exact row_C (xs := [n, o]) (new_blk (by simp)) (by simp)); rintro e w' ⟨rfl, rfl⟩))
      go_ret
      exact ⟨rfl, by repeat (first | exact Below.refl _ _ | apply below_alloc)⟩
    ·have z3 : ((v.length : Int) == 0) = false := by simpa using hz3
     clear hz3
     have HR : Aside0 (chkB 22 a c v t n o = false) := ⟨by have hlw := low_two n o; simp_all [chkB]⟩
     rw [HR.out]
     go_enter Try.func29, Try.ntmps29
     go_wp2_with (first | (go_at_call 43; refine (within_c _ _ _ _).mono ?_; rintro e w' ⟨rfl, rfl⟩) | (go_at_call 44; refine (span_c _ _ _).mono ?_; rintro e w' ⟨rfl, rfl⟩) | (go_at_call 45; refine (some_c A cc v _ _ _ _ ?hv).mono ?_; (case hv => (with_reducible repeat (first | refine Kd.C_alloc ?_ _ | refine Kd.C_drewN ?_ _ | refine Kd.C_drew ?_)); exact HV.out); rintro e w' ⟨rfl, rfl⟩) | (go_at_call 46; refine (all_c _ _ [n, o] _ _ ?hv).mono ?_; (case hv => exact row_C (xs := [n, o]) (new_blk (by simp)) (by simp)); rintro e w' ⟨rfl, rfl⟩))
     go_ret
     exact ⟨rfl, by repeat (first | exact Below.refl _ _ | apply below_alloc)⟩
   ·have z2 : (o == 0) = false := by simpa using hz2
    clear hz2
    by_cases hz3 : ((v.length : Int) == 0) = true
    ·have z3 : ((v.length : Int) == 0) = true := hz3; clear hz3
     by_cases hz4 : (c == 0) = true
     ·have z4 : (c == 0) = true := hz4; clear hz4
      by_cases hz5 : spB a 1 = true
      ·have z5 : spB a 1 = true := hz5; clear hz5
       by_cases hz6 : lowB 65535 [n, o] = true
       ·have z6 : lowB 65535 [n, o] = true := hz6; clear hz6
        have HR : Aside0 (chkB 22 a c v t n o = true) := ⟨by have hlw := low_two n o; simp_all [chkB]⟩
        rw [HR.out]
        go_enter Try.func29, Try.ntmps29
        go_wp2_with (first | (go_at_call 43; refine (within_c _ _ _ _).mono ?_; rintro e w' ⟨rfl, rfl⟩) | (go_at_call 44; refine (span_c _ _ _).mono ?_; rintro e w' ⟨rfl, rfl⟩) | (go_at_call 45; refine (some_c A cc v _ _ _ _ ?hv).mono ?_; (case hv => (with_reducible repeat (first | refine Kd.C_alloc ?_ _ | refine Kd.C_drewN ?_ _ | refine Kd.C_drew ?_)); exact HV.out); rintro e w' ⟨rfl, rfl⟩) | (go_at_call 46; refine (all_c _ _ [n, o] _ _ ?hv).mono ?_; (case hv => exact row_C (xs := [n, o]) (new_blk (by simp)) (by simp)); rintro e w' ⟨rfl, rfl⟩))
        go_ret
        exact ⟨rfl, by repeat (first | exact Below.refl _ _ | apply below_alloc)⟩
       ·have z6 : lowB 65535 [n, o] = false := by simpa using hz6
        clear hz6
        have HR : Aside0 (chkB 22 a c v t n o = false) := ⟨by have hlw := low_two n o; simp_all [chkB]⟩
        rw [HR.out]
        go_enter Try.func29, Try.ntmps29
        go_wp2_with (first | (go_at_call 43; refine (within_c _ _ _ _).mono ?_; rintro e w' ⟨rfl, rfl⟩) | (go_at_call 44; refine (span_c _ _ _).mono ?_; rintro e w' ⟨rfl, rfl⟩) | (go_at_call 45; refine (some_c A cc v _ _ _ _ ?hv).mono ?_; (case hv => (with_reducible repeat (first | refine Kd.C_alloc ?_ _ | refine Kd.C_drewN ?_ _ | refine Kd.C_drew ?_)); exact HV.out); rintro e w' ⟨rfl, rfl⟩) | (go_at_call 46; refine (all_c _ _ [n, o] _ _ ?hv).mono ?_; (case hv => exact row_C (xs := [n, o]) (new_blk (by simp)) (by simp)); rintro e w' ⟨rfl, rfl⟩))
        go_ret
        exact ⟨rfl, by repeat (first | exact Below.refl _ _ | apply below_alloc)⟩
      ·have z5 : spB a 1 = false := by simpa using hz5
       clear hz5
       have HR : Aside0 (chkB 22 a c v t n o = false) := ⟨by have hlw := low_two n o; simp_all [chkB]⟩
       rw [HR.out]
       go_enter Try.func29, Try.ntmps29
       go_wp2_with (first | (go_at_call 43; refine (within_c _ _ _ _).mono ?_; rintro e w' ⟨rfl, rfl⟩) | (go_at_call 44; refine (span_c _ _ _).mono ?_; rintro e w' ⟨rfl, rfl⟩) | (go_at_call 45; refine (some_c A cc v _ _ _ _ ?hv).mono ?_; (case hv => (with_reducible repeat (first | refine Kd.C_alloc ?_ _ | refine Kd.C_drewN ?_ _ | refine Kd.C_drew ?_)); exact HV.out); rintro e w' ⟨rfl, rfl⟩) | (go_at_call 46; refine (all_c _ _ [n, o] _ _ ?hv).mono ?_; (case hv => exact row_C (xs := [n, o]) (new_blk (by simp)) (by simp)); rintro e w' ⟨rfl, rfl⟩))
       go_ret
       exact ⟨rfl, by repeat (first | exact Below.refl _ _ | apply below_alloc)⟩
     ·have z4 : (c == 0) = false := by simpa using hz4
      clear hz4
      have HR : Aside0 (chkB 22 a c v t n o = false) := ⟨by have hlw := low_two n o; simp_all [chkB]⟩
      rw [HR.out]
      go_enter Try.func29, Try.ntmps29
      go_wp2_with (first | (go_at_call 43; refine (within_c _ _ _ _).mono ?_; rintro e w' ⟨rfl, rfl⟩) | (go_at_call 44; refine (span_c _ _ _).mono ?_; rintro e w' ⟨rfl, rfl⟩) | (go_at_call 45; refine (some_c A cc v _ _ _ _ ?hv).mono ?_; (case hv => (with_reducible repeat (first | refine Kd.C_alloc ?_ _ | refine Kd.C_drewN ?_ _ | refine Kd.C_drew ?_)); exact HV.out); rintro e w' ⟨rfl, rfl⟩) | (go_at_call 46; refine (all_c _ _ [n, o] _ _ ?hv).mono ?_; (case hv => exact row_C (xs := [n, o]) (new_blk (by simp)) (by simp)); rintro e w' ⟨rfl, rfl⟩))
      go_ret
      exact ⟨rfl, by repeat (first | exact Below.refl _ _ | apply below_alloc)⟩
    ·have z3 : ((v.length : Int) == 0) = false := by simpa using hz3
     clear hz3
     have HR : Aside0 (chkB 22 a c v t n o = false) := ⟨by have hlw := low_two n o; simp_all [chkB]⟩
     rw [HR.out]
     go_enter Try.func29, Try.ntmps29
     go_wp2_with (first | (go_at_call 43; refine (within_c _ _ _ _).mono ?_; rintro e w' ⟨rfl, rfl⟩) | (go_at_call 44; refine (span_c _ _ _).mono ?_; rintro e w' ⟨rfl, rfl⟩) | (go_at_call 45; refine (some_c A cc v _ _ _ _ ?hv).mono ?_; (case hv => (with_reducible repeat (first | refine Kd.C_alloc ?_ _ | refine Kd.C_drewN ?_ _ | refine Kd.C_drew ?_)); exact HV.out); rintro e w' ⟨rfl, rfl⟩) | (go_at_call 46; refine (all_c _ _ [n, o] _ _ ?hv).mono ?_; (case hv => exact row_C (xs := [n, o]) (new_blk (by simp)) (by simp)); rintro e w' ⟨rfl, rfl⟩))
     go_ret
     exact ⟨rfl, by repeat (first | exact Below.refl _ _ | apply below_alloc)⟩
  ·have z1 : (n == 0) = false := by simpa using hz1
   clear hz1
   by_cases hz2 : ((v.length : Int) == 0) = true
   ·have z2 : ((v.length : Int) == 0) = true := hz2; clear hz2
    by_cases hz3 : (c == 0) = true
    ·have z3 : (c == 0) = true := hz3; clear hz3
     by_cases hz4 : spB a 1 = true
     ·have z4 : spB a 1 = true := hz4; clear hz4
      by_cases hz5 : lowB 65535 [n, o] = true
      ·have z5 : lowB 65535 [n, o] = true := hz5; clear hz5
       have HR : Aside0 (chkB 22 a c v t n o = true) := ⟨by have hlw := low_two n o; simp_all [chkB]⟩
       rw [HR.out]
       go_enter Try.func29, Try.ntmps29
       go_wp2_with (first | (go_at_call 43; refine (within_c _ _ _ _).mono ?_; rintro e w' ⟨rfl, rfl⟩) | (go_at_call 44; refine (span_c _ _ _).mono ?_; rintro e w' ⟨rfl, rfl⟩) | (go_at_call 45; refine (some_c A cc v _ _ _ _ ?hv).mono ?_; (case hv => (with_reducible repeat (first | refine Kd.C_alloc ?_ _ | refine Kd.C_drewN ?_ _ | refine Kd.C_drew ?_)); exact HV.out); rintro e w' ⟨rfl, rfl⟩) | (go_at_call 46; refine (all_c _ _ [n, o] _ _ ?hv).mono ?_; (case hv => exact row_C (xs := [n, o]) (new_blk (by simp)) (by simp)); rintro e w' ⟨rfl, rfl⟩))
       go_ret
       exact ⟨rfl, by repeat (first | exact Below.refl _ _ | apply below_alloc)⟩
      ·have z5 : lowB 65535 [n, o] = false := by simpa using hz5
       clear hz5
       have HR : Aside0 (chkB 22 a c v t n o = false) := ⟨by have hlw := low_two n o; simp_all [chkB]⟩
       rw [HR.out]
       go_enter Try.func29, Try.ntmps29
       go_wp2_with (first | (go_at_call 43; refine (within_c _ _ _ _).mono ?_; rintro e w' ⟨rfl, rfl⟩) | (go_at_call 44; refine (span_c _ _ _).mono ?_; rintro e w' ⟨rfl, rfl⟩) | (go_at_call 45; refine (some_c A cc v _ _ _ _ ?hv).mono ?_; (case hv => (with_reducible repeat (first | refine Kd.C_alloc ?_ _ | refine Kd.C_drewN ?_ _ | refine Kd.C_drew ?_)); exact HV.out); rintro e w' ⟨rfl, rfl⟩) | (go_at_call 46; refine (all_c _ _ [n, o] _ _ ?hv).mono ?_; (case hv => exact row_C (xs := [n, o]) (new_blk (by simp)) (by simp)); rintro e w' ⟨rfl, rfl⟩))
       go_ret
       exact ⟨rfl, by repeat (first | exact Below.refl _ _ | apply below_alloc)⟩
     ·have z4 : spB a 1 = false := by simpa using hz4
      clear hz4
      have HR : Aside0 (chkB 22 a c v t n o = false) := ⟨by have hlw := low_two n o; simp_all [chkB]⟩
      rw [HR.out]
      go_enter Try.func29, Try.ntmps29
      go_wp2_with (first | (go_at_call 43; refine (within_c _ _ _ _).mono ?_; rintro e w' ⟨rfl, rfl⟩) | (go_at_call 44; refine (span_c _ _ _).mono ?_; rintro e w' ⟨rfl, rfl⟩) | (go_at_call 45; refine (some_c A cc v _ _ _ _ ?hv).mono ?_; (case hv => (with_reducible repeat (first | refine Kd.C_alloc ?_ _ | refine Kd.C_drewN ?_ _ | refine Kd.C_drew ?_)); exact HV.out); rintro e w' ⟨rfl, rfl⟩) | (go_at_call 46; refine (all_c _ _ [n, o] _ _ ?hv).mono ?_; (case hv => exact row_C (xs := [n, o]) (new_blk (by simp)) (by simp)); rintro e w' ⟨rfl, rfl⟩))
      go_ret
      exact ⟨rfl, by repeat (first | exact Below.refl _ _ | apply below_alloc)⟩
    ·have z3 : (c == 0) = false := by simpa using hz3
     clear hz3
     have HR : Aside0 (chkB 22 a c v t n o = false) := ⟨by have hlw := low_two n o; simp_all [chkB]⟩
     rw [HR.out]
     go_enter Try.func29, Try.ntmps29
     go_wp2_with (first | (go_at_call 43; refine (within_c _ _ _ _).mono ?_; rintro e w' ⟨rfl, rfl⟩) | (go_at_call 44; refine (span_c _ _ _).mono ?_; rintro e w' ⟨rfl, rfl⟩) | (go_at_call 45; refine (some_c A cc v _ _ _ _ ?hv).mono ?_; (case hv => (with_reducible repeat (first | refine Kd.C_alloc ?_ _ | refine Kd.C_drewN ?_ _ | refine Kd.C_drew ?_)); exact HV.out); rintro e w' ⟨rfl, rfl⟩) | (go_at_call 46; refine (all_c _ _ [n, o] _ _ ?hv).mono ?_; (case hv => exact row_C (xs := [n, o]) (new_blk (by simp)) (by simp)); rintro e w' ⟨rfl, rfl⟩))
     go_ret
     exact ⟨rfl, by repeat (first | exact Below.refl _ _ | apply below_alloc)⟩
   ·have z2 : ((v.length : Int) == 0) = false := by simpa using hz2
    clear hz2
    have HR : Aside0 (chkB 22 a c v t n o = false) := ⟨by have hlw := low_two n o; simp_all [chkB]⟩
    rw [HR.out]
    go_enter Try.func29, Try.ntmps29
    go_wp2_with (first | (go_at_call 43; refine (within_c _ _ _ _).mono ?_; rintro e w' ⟨rfl, rfl⟩) | (go_at_call 44; refine (span_c _ _ _).mono ?_; rintro e w' ⟨rfl, rfl⟩) | (go_at_call 45; refine (some_c A cc v _ _ _ _ ?hv).mono ?_; (case hv => (with_reducible repeat (first | refine Kd.C_alloc ?_ _ | refine Kd.C_drewN ?_ _ | refine Kd.C_drew ?_)); exact HV.out); rintro e w' ⟨rfl, rfl⟩) | (go_at_call 46; refine (all_c _ _ [n, o] _ _ ?hv).mono ?_; (case hv => exact row_C (xs := [n, o]) (new_blk (by simp)) (by simp)); rintro e w' ⟨rfl, rfl⟩))
    go_ret
    exact ⟨rfl, by repeat (first | exact Below.refl _ _ | apply below_alloc)⟩
 ·have z0 : (t == 0) = false := by simpa using hz0
  clear hz0
  by_cases hz1 : ((v.length : Int) == 0) = true
  ·have z1 : ((v.length : Int) == 0) = true := hz1; clear hz1
   have HR : Aside0 (chkB 22 a c v t n o = false) := ⟨by have hlw := low_two n o; simp_all [chkB]⟩
   rw [HR.out]
   go_enter Try.func29, Try.ntmps29
   go_wp2_with (first | (go_at_call 43; refine (within_c _ _ _ _).mono ?_; rintro e w' ⟨rfl, rfl⟩) | (go_at_call 44; refine (span_c _ _ _).mono ?_; rintro e w' ⟨rfl, rfl⟩) | (go_at_call 45; refine (some_c A cc v _ _ _ _ ?hv).mono ?_; (case hv => (with_reducible repeat (first | refine Kd.C_alloc ?_ _ | refine Kd.C_drewN ?_ _ | refine Kd.C_drew ?_)); exact HV.out); rintro e w' ⟨rfl, rfl⟩) | (go_at_call 46; refine (all_c _ _ [n, o] _ _ ?hv).mono ?_; (case hv => exact row_C (xs := [n, o]) (new_blk (by simp)) (by simp)); rintro e w' ⟨rfl, rfl⟩))
   go_ret
   exact ⟨rfl, by repeat (first | exact Below.refl _ _ | apply below_alloc)⟩
  ·have z1 : ((v.length : Int) == 0) = false := by simpa using hz1
   clear hz1
   have HR : Aside0 (chkB 22 a c v t n o = false) := ⟨by have hlw := low_two n o; simp_all [chkB]⟩
   rw [HR.out]
   go_enter Try.func29, Try.ntmps29
   go_wp2_with (first | (go_at_call 43; refine (within_c _ _ _ _).mono ?_; rintro e w' ⟨rfl, rfl⟩) | (go_at_call 44; refine (span_c _ _ _).mono ?_; rintro e w' ⟨rfl, rfl⟩) | (go_at_call 45; refine (some_c A cc v _ _ _ _ ?hv).mono ?_; (case hv => (with_reducible repeat (first | refine Kd.C_alloc ?_ _ | refine Kd.C_drewN ?_ _ | refine Kd.C_drew ?_)); exact HV.out); rintro e w' ⟨rfl, rfl⟩) | (go_at_call 46; refine (all_c _ _ [n, o] _ _ ?hv).mono ?_; (case hv => exact row_C (xs := [n, o]) (new_blk (by simp)) (by simp)); rintro e w' ⟨rfl, rfl⟩))
   go_ret
   exact ⟨rfl, by repeat (first | exact Below.refl _ _ | apply below_alloc)⟩
end Go.Proofs.Ytlalpooiegganaa.Chk
end

section
namespace Go.Proofs.Ytlalpooiegganaa.Chk
open Go.RowKit Go.Proofs.YtlalpooiegganaaW.PrintWords Go.Proofs.YtlalpooiegganaaW.PrintLast Go.Proofs.YtlalpooiegganaaW.PrintMore Go.Proofs.Ytlalpooiegganaa.Core Go.Proofs.Ytlalpooiegganaa.Wk
set_option linter.unusedVariables false
set_option linter.unusedSimpArgs false
set_option maxHeartbeats 4000000 in
set_option maxRecDepth 100000 in
theorem chk_23 (a c : Int) (A : Option Addr) (cc : Nat) (v : List Int) (t n o : Int) (w : World) (hV : Kd.C (Kd.int .i64) w A v.length v) : Calls Try.prog 29 #[.agg #[.int .i64 23, .int .i64 a, .int .i64 c, .slice A v.length cc, .int .i64 t, .int .i64 n, .int .i64 o]] w fun e w' => e = .returned (.int .i64 (if chkB 23 a c v t n o then 0 else 1)) ∧ Below w.heap.size w w' := by
 have HV := Aside0.mk hV; clear hV
 by_cases hz0 : (t == 0) = true
 ·have z0 : (t == 0) = true := hz0; clear hz0
  by_cases hz1 : (n == 0) = true
  ·have z1 : (n == 0) = true := hz1; clear hz1
   by_cases hz2 : (o == 0) = true
   ·have z2 : (o == 0) = true := hz2; clear hz2
    by_cases hz3 : wB 1 125 c = true
    ·have z3 : wB 1 125 c = true := hz3; clear hz3
     by_cases hz4 : spB a c = true
     ·have z4 : spB a c = true := hz4; clear hz4
      by_cases hz5 : smB 1 121 65535 v = true
      ·have z5 : smB 1 121 65535 v = true := hz5; clear hz5; have pz5 := smB_len z5
       by_cases hz6 : spB t v.length = true
       ·have z6 : spB t v.length = true := hz6; clear hz6
        have HR : Aside0 (chkB 23 a c v t n o = true) := ⟨by simp [chkB, z0, z1, z2, z3, z4, z5, z6]⟩
        rw [HR.out]
        go_enter Try.func29, Try.ntmps29
        go_wp2_with (first | (go_at_call 43; refine (within_c _ _ _ _).mono ?_; rintro e w' ⟨rfl, rfl⟩) | (go_at_call 44; refine (span_c _ _ _).mono ?_; rintro e w' ⟨rfl, rfl⟩) | (go_at_call 45; refine (some_c A cc v _ _ _ _ ?hv).mono ?_; (case hv => (with_reducible repeat (first | refine Kd.C_alloc ?_ _ | refine Kd.C_drewN ?_ _ | refine Kd.C_drew ?_)); exact HV.out); rintro e w' ⟨rfl, rfl⟩) | (go_at_call 46; refine (all_c _ _ [n, o] _ _ ?hv).mono ?_; (case hv => exact row_C (xs := [n, o]) (new_blk (by simp)) (by simp)); rintro e w' ⟨rfl, rfl⟩))
        go_ret
        exact ⟨rfl, by repeat (first | exact Below.refl _ _ | apply below_alloc)⟩
       ·have z6 : spB t v.length = false := by simpa using hz6
        clear hz6
        have HR : Aside0 (chkB 23 a c v t n o = false) := ⟨by simp [chkB, z0, z1, z2, z3, z4, z5, z6]⟩
        rw [HR.out]
        go_enter Try.func29, Try.ntmps29
        go_wp2_with (first | (go_at_call 43; refine (within_c _ _ _ _).mono ?_; rintro e w' ⟨rfl, rfl⟩) | (go_at_call 44; refine (span_c _ _ _).mono ?_; rintro e w' ⟨rfl, rfl⟩) | (go_at_call 45; refine (some_c A cc v _ _ _ _ ?hv).mono ?_; (case hv => (with_reducible repeat (first | refine Kd.C_alloc ?_ _ | refine Kd.C_drewN ?_ _ | refine Kd.C_drew ?_)); exact HV.out); rintro e w' ⟨rfl, rfl⟩) | (go_at_call 46; refine (all_c _ _ [n, o] _ _ ?hv).mono ?_; (case hv => exact row_C (xs := [n, o]) (new_blk (by simp)) (by simp)); rintro e w' ⟨rfl, rfl⟩))
        go_ret
        exact ⟨rfl, by repeat (first | exact Below.refl _ _ | apply below_alloc)⟩
      ·have z5 : smB 1 121 65535 v = false := by simpa using hz5
       clear hz5
       have HR : Aside0 (chkB 23 a c v t n o = false) := ⟨by simp [chkB, z0, z1, z2, z3, z4, z5]⟩
       rw [HR.out]
       go_enter Try.func29, Try.ntmps29
       go_wp2_with (first | (go_at_call 43; refine (within_c _ _ _ _).mono ?_; rintro e w' ⟨rfl, rfl⟩) | (go_at_call 44; refine (span_c _ _ _).mono ?_; rintro e w' ⟨rfl, rfl⟩) | (go_at_call 45; refine (some_c A cc v _ _ _ _ ?hv).mono ?_; (case hv => (with_reducible repeat (first | refine Kd.C_alloc ?_ _ | refine Kd.C_drewN ?_ _ | refine Kd.C_drew ?_)); exact HV.out); rintro e w' ⟨rfl, rfl⟩) | (go_at_call 46; refine (all_c _ _ [n, o] _ _ ?hv).mono ?_; (case hv => exact row_C (xs := [n, o]) (new_blk (by simp)) (by simp)); rintro e w' ⟨rfl, rfl⟩))
       go_ret
       exact ⟨rfl, by repeat (first | exact Below.refl _ _ | apply below_alloc)⟩
     ·have z4 : spB a c = false := by simpa using hz4
      clear hz4
      have HR : Aside0 (chkB 23 a c v t n o = false) := ⟨by simp [chkB, z0, z1, z2, z3, z4]⟩
      rw [HR.out]
      go_enter Try.func29, Try.ntmps29
      go_wp2_with (first | (go_at_call 43; refine (within_c _ _ _ _).mono ?_; rintro e w' ⟨rfl, rfl⟩) | (go_at_call 44; refine (span_c _ _ _).mono ?_; rintro e w' ⟨rfl, rfl⟩) | (go_at_call 45; refine (some_c A cc v _ _ _ _ ?hv).mono ?_; (case hv => (with_reducible repeat (first | refine Kd.C_alloc ?_ _ | refine Kd.C_drewN ?_ _ | refine Kd.C_drew ?_)); exact HV.out); rintro e w' ⟨rfl, rfl⟩) | (go_at_call 46; refine (all_c _ _ [n, o] _ _ ?hv).mono ?_; (case hv => exact row_C (xs := [n, o]) (new_blk (by simp)) (by simp)); rintro e w' ⟨rfl, rfl⟩))
      go_ret
      exact ⟨rfl, by repeat (first | exact Below.refl _ _ | apply below_alloc)⟩
    ·have z3 : wB 1 125 c = false := by simpa using hz3
     clear hz3
     have HR : Aside0 (chkB 23 a c v t n o = false) := ⟨by simp [chkB, z0, z1, z2, z3]⟩
     rw [HR.out]
     go_enter Try.func29, Try.ntmps29
     go_wp2_with (first | (go_at_call 43; refine (within_c _ _ _ _).mono ?_; rintro e w' ⟨rfl, rfl⟩) | (go_at_call 44; refine (span_c _ _ _).mono ?_; rintro e w' ⟨rfl, rfl⟩) | (go_at_call 45; refine (some_c A cc v _ _ _ _ ?hv).mono ?_; (case hv => (with_reducible repeat (first | refine Kd.C_alloc ?_ _ | refine Kd.C_drewN ?_ _ | refine Kd.C_drew ?_)); exact HV.out); rintro e w' ⟨rfl, rfl⟩) | (go_at_call 46; refine (all_c _ _ [n, o] _ _ ?hv).mono ?_; (case hv => exact row_C (xs := [n, o]) (new_blk (by simp)) (by simp)); rintro e w' ⟨rfl, rfl⟩))
     go_ret
     exact ⟨rfl, by repeat (first | exact Below.refl _ _ | apply below_alloc)⟩
   ·have z2 : (o == 0) = false := by simpa using hz2
    clear hz2
    have HR : Aside0 (chkB 23 a c v t n o = false) := ⟨by simp [chkB, z0, z1, z2]⟩
    rw [HR.out]
    go_enter Try.func29, Try.ntmps29
    go_wp2_with (first | (go_at_call 43; refine (within_c _ _ _ _).mono ?_; rintro e w' ⟨rfl, rfl⟩) | (go_at_call 44; refine (span_c _ _ _).mono ?_; rintro e w' ⟨rfl, rfl⟩) | (go_at_call 45; refine (some_c A cc v _ _ _ _ ?hv).mono ?_; (case hv => (with_reducible repeat (first | refine Kd.C_alloc ?_ _ | refine Kd.C_drewN ?_ _ | refine Kd.C_drew ?_)); exact HV.out); rintro e w' ⟨rfl, rfl⟩) | (go_at_call 46; refine (all_c _ _ [n, o] _ _ ?hv).mono ?_; (case hv => exact row_C (xs := [n, o]) (new_blk (by simp)) (by simp)); rintro e w' ⟨rfl, rfl⟩))
    go_ret
    exact ⟨rfl, by repeat (first | exact Below.refl _ _ | apply below_alloc)⟩
  ·have z1 : (n == 0) = false := by simpa using hz1
   clear hz1
   have HR : Aside0 (chkB 23 a c v t n o = false) := ⟨by simp [chkB, z0, z1]⟩
   rw [HR.out]
   go_enter Try.func29, Try.ntmps29
   go_wp2_with (first | (go_at_call 43; refine (within_c _ _ _ _).mono ?_; rintro e w' ⟨rfl, rfl⟩) | (go_at_call 44; refine (span_c _ _ _).mono ?_; rintro e w' ⟨rfl, rfl⟩) | (go_at_call 45; refine (some_c A cc v _ _ _ _ ?hv).mono ?_; (case hv => (with_reducible repeat (first | refine Kd.C_alloc ?_ _ | refine Kd.C_drewN ?_ _ | refine Kd.C_drew ?_)); exact HV.out); rintro e w' ⟨rfl, rfl⟩) | (go_at_call 46; refine (all_c _ _ [n, o] _ _ ?hv).mono ?_; (case hv => exact row_C (xs := [n, o]) (new_blk (by simp)) (by simp)); rintro e w' ⟨rfl, rfl⟩))
   go_ret
   exact ⟨rfl, by repeat (first | exact Below.refl _ _ | apply below_alloc)⟩
 ·have z0 : (t == 0) = false := by simpa using hz0
  clear hz0
  by_cases hz1 : (n == 0) = true
  ·have z1 : (n == 0) = true := hz1; clear hz1
   by_cases hz2 : (o == 0) = true
   ·have z2 : (o == 0) = true := hz2; clear hz2
    by_cases hz3 : wB 1 125 c = true
    ·have z3 : wB 1 125 c = true := hz3; clear hz3
     by_cases hz4 : spB a c = true
     ·have z4 : spB a c = true := hz4; clear hz4
      by_cases hz5 : smB 1 121 65535 v = true
      ·have z5 : smB 1 121 65535 v = true := hz5; clear hz5; have pz5 := smB_len z5
       by_cases hz6 : spB t v.length = true
       ·have z6 : spB t v.length = true := hz6; clear hz6
        have HR : Aside0 (chkB 23 a c v t n o = true) := ⟨by simp [chkB, z0, z1, z2, z3, z4, z5, z6]⟩
        rw [HR.out]
        go_enter Try.func29, Try.ntmps29
        go_wp2_with (first | (go_at_call 43; refine (within_c _ _ _ _).mono ?_; rintro e w' ⟨rfl, rfl⟩) | (go_at_call 44; refine (span_c _ _ _).mono ?_; rintro e w' ⟨rfl, rfl⟩) | (go_at_call 45; refine (some_c A cc v _ _ _ _ ?hv).mono ?_; (case hv => (with_reducible repeat (first | refine Kd.C_alloc ?_ _ | refine Kd.C_drewN ?_ _ | refine Kd.C_drew ?_)); exact HV.out); rintro e w' ⟨rfl, rfl⟩) | (go_at_call 46; refine (all_c _ _ [n, o] _ _ ?hv).mono ?_; (case hv => exact row_C (xs := [n, o]) (new_blk (by simp)) (by simp)); rintro e w' ⟨rfl, rfl⟩))
        go_ret
        exact ⟨rfl, by repeat (first | exact Below.refl _ _ | apply below_alloc)⟩
       ·have z6 : spB t v.length = false := by simpa using hz6
        clear hz6
        have HR : Aside0 (chkB 23 a c v t n o = false) := ⟨by simp [chkB, z0, z1, z2, z3, z4, z5, z6]⟩
        rw [HR.out]
        go_enter Try.func29, Try.ntmps29
        go_wp2_with (first | (go_at_call 43; refine (within_c _ _ _ _).mono ?_; rintro e w' ⟨rfl, rfl⟩) | (go_at_call 44; refine (span_c _ _ _).mono ?_; rintro e w' ⟨rfl, rfl⟩) | (go_at_call 45; refine (some_c A cc v _ _ _ _ ?hv).mono ?_; (case hv => (with_reducible repeat (first | refine Kd.C_alloc ?_ _ | refine Kd.C_drewN ?_ _ | refine Kd.C_drew ?_)); exact HV.out); rintro e w' ⟨rfl, rfl⟩) | (go_at_call 46; refine (all_c _ _ [n, o] _ _ ?hv).mono ?_; (case hv => exact row_C (xs := [n, o]) (new_blk (by simp)) (by simp)); rintro e w' ⟨rfl, rfl⟩))
        go_ret
        exact ⟨rfl, by repeat (first | exact Below.refl _ _ | apply below_alloc)⟩
      ·have z5 : smB 1 121 65535 v = false := by simpa using hz5
       clear hz5
       have HR : Aside0 (chkB 23 a c v t n o = false) := ⟨by simp [chkB, z0, z1, z2, z3, z4, z5]⟩
       rw [HR.out]
       go_enter Try.func29, Try.ntmps29
       go_wp2_with (first | (go_at_call 43; refine (within_c _ _ _ _).mono ?_; rintro e w' ⟨rfl, rfl⟩) | (go_at_call 44; refine (span_c _ _ _).mono ?_; rintro e w' ⟨rfl, rfl⟩) | (go_at_call 45; refine (some_c A cc v _ _ _ _ ?hv).mono ?_; (case hv => (with_reducible repeat (first | refine Kd.C_alloc ?_ _ | refine Kd.C_drewN ?_ _ | refine Kd.C_drew ?_)); exact HV.out); rintro e w' ⟨rfl, rfl⟩) | (go_at_call 46; refine (all_c _ _ [n, o] _ _ ?hv).mono ?_; (case hv => exact row_C (xs := [n, o]) (new_blk (by simp)) (by simp)); rintro e w' ⟨rfl, rfl⟩))
       go_ret
       exact ⟨rfl, by repeat (first | exact Below.refl _ _ | apply below_alloc)⟩
     ·have z4 : spB a c = false := by simpa using hz4
      clear hz4
      have HR : Aside0 (chkB 23 a c v t n o = false) := ⟨by simp [chkB, z0, z1, z2, z3, z4]⟩
      rw [HR.out]
      go_enter Try.func29, Try.ntmps29
      go_wp2_with (first | (go_at_call 43; refine (within_c _ _ _ _).mono ?_; rintro e w' ⟨rfl, rfl⟩) | (go_at_call 44; refine (span_c _ _ _).mono ?_; rintro e w' ⟨rfl, rfl⟩) | (go_at_call 45; refine (some_c A cc v _ _ _ _ ?hv).mono ?_; (case hv => (with_reducible repeat (first | refine Kd.C_alloc ?_ _ | refine Kd.C_drewN ?_ _ | refine Kd.C_drew ?_)); exact HV.out); rintro e w' ⟨rfl, rfl⟩) | (go_at_call 46; refine (all_c _ _ [n, o] _ _ ?hv).mono ?_; (case hv => exact row_C (xs := [n, o]) (new_blk (by simp)) (by simp)); rintro e w' ⟨rfl, rfl⟩))
      go_ret
      exact ⟨rfl, by repeat (first | exact Below.refl _ _ | apply below_alloc)⟩
    ·have z3 : wB 1 125 c = false := by simpa using hz3
     clear hz3
     have HR : Aside0 (chkB 23 a c v t n o = false) := ⟨by simp [chkB, z0, z1, z2, z3]⟩
     rw [HR.out]
     go_enter Try.func29, Try.ntmps29
     go_wp2_with (first | (go_at_call 43; refine (within_c _ _ _ _).mono ?_; rintro e w' ⟨rfl, rfl⟩) | (go_at_call 44; refine (span_c _ _ _).mono ?_; rintro e w' ⟨rfl, rfl⟩) | (go_at_call 45; refine (some_c A cc v _ _ _ _ ?hv).mono ?_; (case hv => (with_reducible repeat (first | refine Kd.C_alloc ?_ _ | refine Kd.C_drewN ?_ _ | refine Kd.C_drew ?_)); exact HV.out); rintro e w' ⟨rfl, rfl⟩) | (go_at_call 46; refine (all_c _ _ [n, o] _ _ ?hv).mono ?_; (case hv => exact row_C (xs := [n, o]) (new_blk (by simp)) (by simp)); rintro e w' ⟨rfl, rfl⟩))
     go_ret
     exact ⟨rfl, by repeat (first | exact Below.refl _ _ | apply below_alloc)⟩
   ·have z2 : (o == 0) = false := by simpa using hz2
    clear hz2
    have HR : Aside0 (chkB 23 a c v t n o = false) := ⟨by simp [chkB, z0, z1, z2]⟩
    rw [HR.out]
    go_enter Try.func29, Try.ntmps29
    go_wp2_with (first | (go_at_call 43; refine (within_c _ _ _ _).mono ?_; rintro e w' ⟨rfl, rfl⟩) | (go_at_call 44; refine (span_c _ _ _).mono ?_; rintro e w' ⟨rfl, rfl⟩) | (go_at_call 45; refine (some_c A cc v _ _ _ _ ?hv).mono ?_; (case hv => (with_reducible repeat (first | refine Kd.C_alloc ?_ _ | refine Kd.C_drewN ?_ _ | refine Kd.C_drew ?_)); exact HV.out); rintro e w' ⟨rfl, rfl⟩) | (go_at_call 46; refine (all_c _ _ [n, o] _ _ ?hv).mono ?_; (case hv => exact row_C (xs := [n, o]) (new_blk (by simp)) (by simp)); rintro e w' ⟨rfl, rfl⟩))
    go_ret
    exact ⟨rfl, by repeat (first | exact Below.refl _ _ | apply below_alloc)⟩
  ·have z1 : (n == 0) = false := by simpa using hz1
   clear hz1
   have HR : Aside0 (chkB 23 a c v t n o = false) := ⟨by simp [chkB, z0, z1]⟩
   rw [HR.out]
   go_enter Try.func29, Try.ntmps29
   go_wp2_with (first | (go_at_call 43; refine (within_c _ _ _ _).mono ?_; rintro e w' ⟨rfl, rfl⟩) | (go_at_call 44; refine (span_c _ _ _).mono ?_; rintro e w' ⟨rfl, rfl⟩) | (go_at_call 45; refine (some_c A cc v _ _ _ _ ?hv).mono ?_; (case hv => (with_reducible repeat (first | refine Kd.C_alloc ?_ _ | refine Kd.C_drewN ?_ _ | refine Kd.C_drew ?_)); exact HV.out); rintro e w' ⟨rfl, rfl⟩) | (go_at_call 46; refine (all_c _ _ [n, o] _ _ ?hv).mono ?_; (case hv => exact row_C (xs := [n, o]) (new_blk (by simp)) (by simp)); rintro e w' ⟨rfl, rfl⟩))
   go_ret
   exact ⟨rfl, by repeat (first | exact Below.refl _ _ | apply below_alloc)⟩
set_option maxHeartbeats 4000000 in
set_option maxRecDepth 100000 in
theorem chk_f (f a c : Int) (A : Option Addr) (cc : Nat) (v : List Int) (t n o : Int) (w : World) (hV : Kd.C (Kd.int .i64) w A v.length v) (hf : f ≠ 1 ∧ f ≠ 2 ∧ f ≠ 3 ∧ f ≠ 4 ∧ f ≠ 5 ∧ f ≠ 6 ∧ f ≠ 15 ∧ f ≠ 16 ∧ f ≠ 22 ∧ f ≠ 23) : Calls Try.prog 29 #[.agg #[.int .i64 f, .int .i64 a, .int .i64 c, .slice A v.length cc, .int .i64 t, .int .i64 n, .int .i64 o]] w fun e w' => e = .returned (.int .i64 (if chkB f a c v t n o then 0 else 1)) ∧ Below w.heap.size w w' := by
 have HV := Aside0.mk hV; clear hV
 obtain ⟨g1, g2, g3, g4, g5, g6, g7, g8, g9, g10⟩ := hf
 have HR : Aside0 (chkB f a c v t n o = false) := ⟨by unfold chkB; rw [if_neg (by omega), if_neg (by omega), if_neg g5, if_neg g6, if_neg g7, if_neg g8, if_neg g9, if_neg g10]⟩
 have y0 : (f == 1) = false := beq_eq_false_iff_ne.2 g1
 have y1 : (f == 2) = false := beq_eq_false_iff_ne.2 g2
 have y2 : (f == 3) = false := beq_eq_false_iff_ne.2 g3
 have y3 : (f == 4) = false := beq_eq_false_iff_ne.2 g4
 have y4 : (f == 5) = false := beq_eq_false_iff_ne.2 g5
 have y5 : (f == 6) = false := beq_eq_false_iff_ne.2 g6
 have y6 : (f == 15) = false := beq_eq_false_iff_ne.2 g7
 have y7 : (f == 16) = false := beq_eq_false_iff_ne.2 g8
 have y8 : (f == 22) = false := beq_eq_false_iff_ne.2 g9
 have y9 : (f == 23) = false := beq_eq_false_iff_ne.2 g10
 clear g1 g2 g3 g4 g5 g6 g7 g8 g9 g10
 rw [HR.out]
 by_cases hz0 : (t == 0) = true
 ·have z0 : (t == 0) = true := hz0; clear hz0
  by_cases hz1 : (n == 0) = true
  ·have z1 : (n == 0) = true := hz1; clear hz1
   by_cases hz2 : (o == 0) = true
   ·have z2 : (o == 0) = true := hz2; clear hz2
    go_enter Try.func29, Try.ntmps29
    go_wp2_with (first | (go_at_call 43; refine (within_c _ _ _ _).mono ?_; rintro e w' ⟨rfl, rfl⟩) | (go_at_call 44; refine (span_c _ _ _).mono ?_; rintro e w' ⟨rfl, rfl⟩) | (go_at_call 45; refine (some_c A cc v _ _ _ _ ?hv).mono ?_; (case hv => (with_reducible repeat (first | refine Kd.C_alloc ?_ _ | refine Kd.C_drewN ?_ _ | refine Kd.C_drew ?_)); exact HV.out); rintro e w' ⟨rfl, rfl⟩) | (go_at_call 46; refine (all_c _ _ [n, o] _ _ ?hv).mono ?_; (case hv => exact row_C (xs := [n, o]) (new_blk (by simp)) (by simp)); rintro e w' ⟨rfl, rfl⟩))
    go_ret
    exact ⟨rfl, by repeat (first | exact Below.refl _ _ | apply below_alloc)⟩
   ·have z2 : (o == 0) = false := by simpa using hz2
    clear hz2
    go_enter Try.func29, Try.ntmps29
    go_wp2_with (first | (go_at_call 43; refine (within_c _ _ _ _).mono ?_; rintro e w' ⟨rfl, rfl⟩) | (go_at_call 44; refine (span_c _ _ _).mono ?_; rintro e w' ⟨rfl, rfl⟩) | (go_at_call 45; refine (some_c A cc v _ _ _ _ ?hv).mono ?_; (case hv => (with_reducible repeat (first | refine Kd.C_alloc ?_ _ | refine Kd.C_drewN ?_ _ | refine Kd.C_drew ?_)); exact HV.out); rintro e w' ⟨rfl, rfl⟩) | (go_at_call 46; refine (all_c _ _ [n, o] _ _ ?hv).mono ?_; (case hv => exact row_C (xs := [n, o]) (new_blk (by simp)) (by simp)); rintro e w' ⟨rfl, rfl⟩))
    go_ret
    exact ⟨rfl, by repeat (first | exact Below.refl _ _ | apply below_alloc)⟩
  ·have z1 : (n == 0) = false := by simpa using hz1
   clear hz1
   go_enter Try.func29, Try.ntmps29
   go_wp2_with (first | (go_at_call 43; refine (within_c _ _ _ _).mono ?_; rintro e w' ⟨rfl, rfl⟩) | (go_at_call 44; refine (span_c _ _ _).mono ?_; rintro e w' ⟨rfl, rfl⟩) | (go_at_call 45; refine (some_c A cc v _ _ _ _ ?hv).mono ?_; (case hv => (with_reducible repeat (first | refine Kd.C_alloc ?_ _ | refine Kd.C_drewN ?_ _ | refine Kd.C_drew ?_)); exact HV.out); rintro e w' ⟨rfl, rfl⟩) | (go_at_call 46; refine (all_c _ _ [n, o] _ _ ?hv).mono ?_; (case hv => exact row_C (xs := [n, o]) (new_blk (by simp)) (by simp)); rintro e w' ⟨rfl, rfl⟩))
   go_ret
   exact ⟨rfl, by repeat (first | exact Below.refl _ _ | apply below_alloc)⟩
 ·have z0 : (t == 0) = false := by simpa using hz0
  clear hz0
  go_enter Try.func29, Try.ntmps29
  go_wp2_with (first | (go_at_call 43; refine (within_c _ _ _ _).mono ?_; rintro e w' ⟨rfl, rfl⟩) | (go_at_call 44; refine (span_c _ _ _).mono ?_; rintro e w' ⟨rfl, rfl⟩) | (go_at_call 45; refine (some_c A cc v _ _ _ _ ?hv).mono ?_; (case hv => (with_reducible repeat (first | refine Kd.C_alloc ?_ _ | refine Kd.C_drewN ?_ _ | refine Kd.C_drew ?_)); exact HV.out); rintro e w' ⟨rfl, rfl⟩) | (go_at_call 46; refine (all_c _ _ [n, o] _ _ ?hv).mono ?_; (case hv => exact row_C (xs := [n, o]) (new_blk (by simp)) (by simp)); rintro e w' ⟨rfl, rfl⟩))
  go_ret
  exact ⟨rfl, by repeat (first | exact Below.refl _ _ | apply below_alloc)⟩
end Go.Proofs.Ytlalpooiegganaa.Chk
end

section
namespace Go.Proofs.Ytlalpooiegganaa.Chk
open Go.RowKit Go.Proofs.YtlalpooiegganaaW.PrintWords Go.Proofs.YtlalpooiegganaaW.PrintLast Go.Proofs.YtlalpooiegganaaW.PrintMore Go.Proofs.Ytlalpooiegganaa.Core Go.Proofs.Ytlalpooiegganaa.Wk
set_option linter.unusedVariables false
set_option linter.unusedSimpArgs false
def bitB (f : Int) : Bool := decide (f = 1 ∨ f = 2 ∨ f = 5 ∨ f = 15)
set_option maxHeartbeats 4000000 in
set_option maxRecDepth 100000 in
theorem bit_c (f : Int) (w : World) : Calls Try.prog 36 #[.int .i64 f] w fun e w' => e = .returned (.bool (bitB f)) ∧ w = w' := by
 by_cases h0 : f = 1
 ·subst h0; rw [show bitB 1 = true from by decide]
  go_enter Try.func36, Try.ntmps36
  go_wp2
  go_ret
  exact ⟨rfl, rfl⟩
 by_cases h1 : f = 2
 ·subst h1; rw [show bitB 2 = true from by decide]
  go_enter Try.func36, Try.ntmps36
  go_wp2
  go_ret
  exact ⟨rfl, rfl⟩
 by_cases h2 : f = 5
 ·subst h2; rw [show bitB 5 = true from by decide]
  go_enter Try.func36, Try.ntmps36
  go_wp2
  go_ret
  exact ⟨rfl, rfl⟩
 by_cases h3 : f = 15
 ·subst h3; rw [show bitB 15 = true from by decide]
  go_enter Try.func36, Try.ntmps36
  go_wp2
  go_ret
  exact ⟨rfl, rfl⟩
 have hr : Aside0 (bitB f = false) := ⟨decide_eq_false (by omega)⟩
 rw [hr.out]
 have y0 : (f == 1) = false := beq_eq_false_iff_ne.2 h0
 have y1 : (f == 2) = false := beq_eq_false_iff_ne.2 h1
 have y2 : (f == 5) = false := beq_eq_false_iff_ne.2 h2
 have y3 : (f == 15) = false := beq_eq_false_iff_ne.2 h3
 clear h0 h1 h2 h3
 go_enter Try.func36, Try.ntmps36
 go_wp2
 go_ret
 exact ⟨rfl, rfl⟩
set_option maxHeartbeats 4000000 in
set_option maxRecDepth 100000 in
theorem refspan_c (a n : Int) (w : World) (h0 : -1000000 ≤ n) (h1 : n ≤ 1000000) : Calls Try.prog 26 #[.int .i64 a, .int .i64 n] w fun e w' => e = .returned (.bool (spB a n)) ∧ w = w' := by
 by_cases h2 : wB 0 65535 a = true
 ·have hb := wB_iff.1 h2
  have b0 := hb.1; have b1 := hb.2
  by_cases h3 : a + n ≤ 65536
  ·have t1 : decide (a + n ≤ 65536) = true := decide_eq_true h3
   have hr : Aside0 (spB a n = true) := ⟨decide_eq_true ⟨b0, b1, h3⟩⟩
   rw [hr.out]; clear h3 hb
   go_enter Try.func26, Try.ntmps26
   go_wp2_with (go_at_call 28; refine (is_c _ _).mono ?_; rintro e w' ⟨rfl, rfl⟩)
   go_ret
   exact ⟨rfl, rfl⟩
  ·have t1 : decide (a + n ≤ 65536) = false := decide_eq_false h3
   have hr : Aside0 (spB a n = false) := ⟨decide_eq_false (fun a => h3 a.2.2)⟩
   rw [hr.out]; clear h3 hb
   go_enter Try.func26, Try.ntmps26
   go_wp2_with (go_at_call 28; refine (is_c _ _).mono ?_; rintro e w' ⟨rfl, rfl⟩)
   go_ret
   exact ⟨rfl, rfl⟩
 ·have t0 : wB 0 65535 a = false := by simpa using h2
  have hr : Aside0 (spB a n = false) := ⟨decide_eq_false (fun a => h2 (wB_iff.2 ⟨a.1, a.2.1⟩))⟩
  rw [hr.out]; clear h2
  go_enter Try.func26, Try.ntmps26
  go_wp2_with (go_at_call 28; refine (is_c _ _).mono ?_; rintro e w' ⟨rfl, rfl⟩)
  go_ret
  exact ⟨rfl, rfl⟩
set_option maxHeartbeats 4000000 in
set_option maxRecDepth 100000 in
theorem vals_1 (f a c : Int) (A : Option Addr) (cc : Nat) (v : List Int) (t n o lo hi : Int) (w : World) (hV : Kd.C (Kd.int .i64) w A v.length v) (h : (v.length : Int) < lo) : Calls Try.prog 27 #[.agg #[.int .i64 f, .int .i64 a, .int .i64 c, .slice A v.length cc, .int .i64 t, .int .i64 n, .int .i64 o], .int .i64 lo, .int .i64 hi] w fun e w' => e = .returned (.bool (false)) ∧ Below w.heap.size w w' := by
 have HV := Aside0.mk hV; clear hV
 have t1 : decide ((v.length : Int) < lo) = true := decide_eq_true h
 clear h
 go_enter Try.func27, Try.ntmps27
 go_wp2_with (first | fail)
 go_ret
 exact ⟨rfl, by repeat (first | exact Below.refl _ _ | apply below_alloc)⟩
set_option maxHeartbeats 4000000 in
set_option maxRecDepth 100000 in
theorem vals_2 (f a c : Int) (A : Option Addr) (cc : Nat) (v : List Int) (t n o lo hi : Int) (w : World) (hV : Kd.C (Kd.int .i64) w A v.length v) (h0 : ¬ (v.length : Int) < lo) (h : hi < (v.length : Int)) : Calls Try.prog 27 #[.agg #[.int .i64 f, .int .i64 a, .int .i64 c, .slice A v.length cc, .int .i64 t, .int .i64 n, .int .i64 o], .int .i64 lo, .int .i64 hi] w fun e w' => e = .returned (.bool (false)) ∧ Below w.heap.size w w' := by
 have HV := Aside0.mk hV; clear hV
 have t1 : decide ((v.length : Int) < lo) = false := decide_eq_false h0; have t2 : decide (hi < (v.length : Int)) = true := decide_eq_true h
 clear h h0
 go_enter Try.func27, Try.ntmps27
 go_wp2_with (first | fail)
 go_ret
 exact ⟨rfl, by repeat (first | exact Below.refl _ _ | apply below_alloc)⟩
set_option maxHeartbeats 4000000 in
set_option maxRecDepth 100000 in
theorem vals_3 (f a c : Int) (A : Option Addr) (cc : Nat) (v : List Int) (t n o lo hi : Int) (w : World) (hV : Kd.C (Kd.int .i64) w A v.length v) (h0 : ¬ (v.length : Int) < lo) (h : ¬ hi < (v.length : Int)) (hbt : bitB f = true) : Calls Try.prog 27 #[.agg #[.int .i64 f, .int .i64 a, .int .i64 c, .slice A v.length cc, .int .i64 t, .int .i64 n, .int .i64 o], .int .i64 lo, .int .i64 hi] w fun e w' => e = .returned (.bool (lowB 1 v)) ∧ Below w.heap.size w w' := by
 have HV := Aside0.mk hV; clear hV
 have t1 : decide ((v.length : Int) < lo) = false := decide_eq_false h0; have t2 : decide (hi < (v.length : Int)) = false := decide_eq_false h; have HBT := Aside0.mk hbt
 clear h h0 hbt
 go_enter Try.func27, Try.ntmps27
 go_wp2_with (first | (go_at_call 36; refine (bit_c _ _).mono ?_; rw [HBT.out]; rintro e w' ⟨rfl, rfl⟩) | (go_at_call 41; refine (bits_c A cc v _ ?hv).mono ?_; (case hv => (with_reducible repeat (first | refine Kd.C_alloc ?_ _ | refine Kd.C_drewN ?_ _ | refine Kd.C_drew ?_)); exact HV.out); rintro e w' ⟨rfl, rfl⟩))
 go_ret
 exact ⟨rfl, by repeat (first | exact Below.refl _ _ | apply below_alloc)⟩
set_option maxHeartbeats 4000000 in
set_option maxRecDepth 100000 in
theorem vals_4 (f a c : Int) (A : Option Addr) (cc : Nat) (v : List Int) (t n o lo hi : Int) (w : World) (hV : Kd.C (Kd.int .i64) w A v.length v) (h0 : ¬ (v.length : Int) < lo) (h : ¬ hi < (v.length : Int)) (hbt : bitB f = false) : Calls Try.prog 27 #[.agg #[.int .i64 f, .int .i64 a, .int .i64 c, .slice A v.length cc, .int .i64 t, .int .i64 n, .int .i64 o], .int .i64 lo, .int .i64 hi] w fun e w' => e = .returned (.bool (lowB 65535 v)) ∧ Below w.heap.size w w' := by
 have HV := Aside0.mk hV; clear hV
 have t1 : decide ((v.length : Int) < lo) = false := decide_eq_false h0; have t2 : decide (hi < (v.length : Int)) = false := decide_eq_false h; have HBT := Aside0.mk hbt
 clear h h0 hbt
 go_enter Try.func27, Try.ntmps27
 go_wp2_with (first | (go_at_call 36; refine (bit_c _ _).mono ?_; rw [HBT.out]; rintro e w' ⟨rfl, rfl⟩) | (go_at_call 42; refine (words_c A cc v _ ?hv).mono ?_; (case hv => (with_reducible repeat (first | refine Kd.C_alloc ?_ _ | refine Kd.C_drewN ?_ _ | refine Kd.C_drew ?_)); exact HV.out); rintro e w' ⟨rfl, rfl⟩))
 go_ret
 exact ⟨rfl, by repeat (first | exact Below.refl _ _ | apply below_alloc)⟩
theorem vals_c (f a c : Int) (A : Option Addr) (cc : Nat) (v : List Int) (t n o lo hi : Int) (w : World) (hV : Kd.C (Kd.int .i64) w A v.length v) {m : Int} (hm : (if bitB f = true then 1 else 65535) = m) : Calls Try.prog 27 #[.agg #[.int .i64 f, .int .i64 a, .int .i64 c, .slice A v.length cc, .int .i64 t, .int .i64 n, .int .i64 o], .int .i64 lo, .int .i64 hi] w fun e w' => e = .returned (.bool (smB lo hi m v)) ∧ Below w.heap.size w w' := by
 unfold smB
 by_cases h0 : (v.length : Int) < lo
 ·rw [wB_no (fun a => by omega), Bool.false_and]; exact vals_1 f a c A cc v t n o lo hi w hV h0
 by_cases h1 : hi < (v.length : Int)
 ·rw [wB_no (fun a => by omega), Bool.false_and]; exact vals_2 f a c A cc v t n o lo hi w hV h0 h1
 rw [wB_yes (by omega) (by omega), Bool.true_and]
 cases hb : bitB f with
 | true => rw [hb, if_pos rfl] at hm; subst hm; exact vals_3 f a c A cc v t n o lo hi w hV h0 h1 hb
 | false => rw [hb, if_neg (by simp)] at hm; subst hm; exact vals_4 f a c A cc v t n o lo hi w hV h0 h1 hb
theorem cells7 {w : World} {g : Nat} {v0 v1 v2 v3 v4 v5 v6 : Value} {T : TypeId} (h : w.heap[g]? = some (.cells #[v0, v1, v2, v3, v4, v5, v6] T (0, 0))) : w.cell? ⟨g, 0, none⟩ = some v0 ∧ w.cell? ⟨g, 1, none⟩ = some v1 ∧ w.cell? ⟨g, 2, none⟩ = some v2 ∧ w.cell? ⟨g, 3, none⟩ = some v3 ∧ w.cell? ⟨g, 4, none⟩ = some v4 ∧ w.cell? ⟨g, 5, none⟩ = some v5 ∧ w.cell? ⟨g, 6, none⟩ = some v6 :=
 ⟨(blk_cell h 0).trans rfl, (blk_cell h 1).trans rfl, (blk_cell h 2).trans rfl, (blk_cell h 3).trans rfl, (blk_cell h 4).trans rfl, (blk_cell h 5).trans rfl, (blk_cell h 6).trans rfl⟩
end Go.Proofs.Ytlalpooiegganaa.Chk
end

section
namespace Go.Proofs.Ytlalpooiegganaa.Chk
open Go.RowKit Go.Proofs.YtlalpooiegganaaW.PrintWords Go.Proofs.YtlalpooiegganaaW.PrintLast Go.Proofs.YtlalpooiegganaaW.PrintMore Go.Proofs.Ytlalpooiegganaa.Core Go.Proofs.Ytlalpooiegganaa.Wk
set_option linter.unusedVariables false
set_option linter.unusedSimpArgs false
set_option maxHeartbeats 4000000 in
set_option maxRecDepth 100000 in
theorem may_1 (a c : Int) (A : Option Addr) (cc : Nat) (v : List Int) (t n o : Int) (w : World) (hV : Kd.C (Kd.int .i64) w A v.length v) : Calls Try.prog 10 #[.agg #[.int .i64 1, .int .i64 a, .int .i64 c, .slice A v.length cc, .int .i64 t, .int .i64 n, .int .i64 o]] w fun e w' => e = .returned (.bool (chkB 1 a c v t n o)) ∧ Below w.heap.size w w' := by
 have HV := Aside0.mk hV; clear hV
 by_cases hz0 : (n == 0) = true
 ·have z0 : (n == 0) = true := hz0; clear hz0
  by_cases hz1 : (o == 0) = true
  ·have z1 : (o == 0) = true := hz1; clear hz1
   by_cases hz2 : ((v.length : Int) == 0) = true
   ·have z2 : ((v.length : Int) == 0) = true := hz2; clear hz2
    by_cases hz3 : (t == 0) = true
    ·have z3 : (t == 0) = true := hz3; clear hz3
     by_cases hz4 : decide (1 ≤ c) = true
     ·have z4 : decide (1 ≤ c) = true := hz4; clear hz4; have pz4 := of_decide_eq_true z4
      by_cases hz5 : decide (c ≤ 2000) = true
      ·have z5 : decide (c ≤ 2000) = true := hz5; clear hz5; have pz5 := of_decide_eq_true z5
       by_cases hz6 : spB a c = true
       ·have z6 : spB a c = true := hz6; clear hz6
        have HR : Aside0 (chkB 1 a c v t n o = true) := ⟨by simp_all [chkB, wB] <;> (intros; omega)⟩
        rw [HR.out]
        go_enter Try.func10, Try.ntmps10
        go_wp2_with (first | ((with_reducible refine gate_dst (N := 1) rfl ?_); refine bx_ (N := 1) (cs := #[.int .i64 1, .int .i64 a, .int .i64 c, .slice A v.length cc, .int .i64 t, .int .i64 n, .int .i64 o]) (t := 31) ?_; intro g hg w1 hb HB; have XB := Aside0.mk HB; have BK := Aside0.mk hb; obtain ⟨k0, k1, k2, k3, k4, k5, k6⟩ := cells7 hb; clear hg hb HB) | (go_at_call 28; refine (is_c _ _).mono ?_; rintro e w' ⟨rfl, rfl⟩) | (go_at_call 26; refine (refspan_c _ _ _ (by omega) (by omega)).mono ?_; rintro e w' ⟨rfl, rfl⟩))
        go_ret
        exact ⟨rfl, XB.out⟩
       ·have z6 : spB a c = false := by simpa using hz6
        clear hz6
        have HR : Aside0 (chkB 1 a c v t n o = false) := ⟨by simp_all [chkB, wB] <;> (intros; omega)⟩
        rw [HR.out]
        go_enter Try.func10, Try.ntmps10
        go_wp2_with (first | ((with_reducible refine gate_dst (N := 1) rfl ?_); refine bx_ (N := 1) (cs := #[.int .i64 1, .int .i64 a, .int .i64 c, .slice A v.length cc, .int .i64 t, .int .i64 n, .int .i64 o]) (t := 31) ?_; intro g hg w1 hb HB; have XB := Aside0.mk HB; have BK := Aside0.mk hb; obtain ⟨k0, k1, k2, k3, k4, k5, k6⟩ := cells7 hb; clear hg hb HB) | (go_at_call 28; refine (is_c _ _).mono ?_; rintro e w' ⟨rfl, rfl⟩) | (go_at_call 26; refine (refspan_c _ _ _ (by omega) (by omega)).mono ?_; rintro e w' ⟨rfl, rfl⟩))
        go_ret
        exact ⟨rfl, XB.out⟩
      ·have z5 : decide (c ≤ 2000) = false := by simpa using hz5
       clear hz5
       have HR : Aside0 (chkB 1 a c v t n o = false) := ⟨by simp_all [chkB, wB] <;> (intros; omega)⟩
       rw [HR.out]
       go_enter Try.func10, Try.ntmps10
       go_wp2_with (first | ((with_reducible refine gate_dst (N := 1) rfl ?_); refine bx_ (N := 1) (cs := #[.int .i64 1, .int .i64 a, .int .i64 c, .slice A v.length cc, .int .i64 t, .int .i64 n, .int .i64 o]) (t := 31) ?_; intro g hg w1 hb HB; have XB := Aside0.mk HB; have BK := Aside0.mk hb; obtain ⟨k0, k1, k2, k3, k4, k5, k6⟩ := cells7 hb; clear hg hb HB) | (go_at_call 28; refine (is_c _ _).mono ?_; rintro e w' ⟨rfl, rfl⟩) | (go_at_call 26; refine (refspan_c _ _ _ (by omega) (by omega)).mono ?_; rintro e w' ⟨rfl, rfl⟩))
       go_ret
       exact ⟨rfl, XB.out⟩
     ·have z4 : decide (1 ≤ c) = false := by simpa using hz4
      clear hz4
      have HR : Aside0 (chkB 1 a c v t n o = false) := ⟨by simp_all [chkB, wB] <;> (intros; omega)⟩
      rw [HR.out]
      go_enter Try.func10, Try.ntmps10
      go_wp2_with (first | ((with_reducible refine gate_dst (N := 1) rfl ?_); refine bx_ (N := 1) (cs := #[.int .i64 1, .int .i64 a, .int .i64 c, .slice A v.length cc, .int .i64 t, .int .i64 n, .int .i64 o]) (t := 31) ?_; intro g hg w1 hb HB; have XB := Aside0.mk HB; have BK := Aside0.mk hb; obtain ⟨k0, k1, k2, k3, k4, k5, k6⟩ := cells7 hb; clear hg hb HB) | (go_at_call 28; refine (is_c _ _).mono ?_; rintro e w' ⟨rfl, rfl⟩) | (go_at_call 26; refine (refspan_c _ _ _ (by omega) (by omega)).mono ?_; rintro e w' ⟨rfl, rfl⟩))
      go_ret
      exact ⟨rfl, XB.out⟩
    ·have z3 : (t == 0) = false := by simpa using hz3
     clear hz3
     have HR : Aside0 (chkB 1 a c v t n o = false) := ⟨by simp_all [chkB, wB] <;> (intros; omega)⟩
     rw [HR.out]
     go_enter Try.func10, Try.ntmps10
     go_wp2_with (first | ((with_reducible refine gate_dst (N := 1) rfl ?_); refine bx_ (N := 1) (cs := #[.int .i64 1, .int .i64 a, .int .i64 c, .slice A v.length cc, .int .i64 t, .int .i64 n, .int .i64 o]) (t := 31) ?_; intro g hg w1 hb HB; have XB := Aside0.mk HB; have BK := Aside0.mk hb; obtain ⟨k0, k1, k2, k3, k4, k5, k6⟩ := cells7 hb; clear hg hb HB) | (go_at_call 28; refine (is_c _ _).mono ?_; rintro e w' ⟨rfl, rfl⟩) | (go_at_call 26; refine (refspan_c _ _ _ (by omega) (by omega)).mono ?_; rintro e w' ⟨rfl, rfl⟩))
     go_ret
     exact ⟨rfl, XB.out⟩
   ·have z2 : ((v.length : Int) == 0) = false := by simpa using hz2
    clear hz2
    have HR : Aside0 (chkB 1 a c v t n o = false) := ⟨by simp_all [chkB, wB] <;> (intros; omega)⟩
    rw [HR.out]
    go_enter Try.func10, Try.ntmps10
    go_wp2_with (first | ((with_reducible refine gate_dst (N := 1) rfl ?_); refine bx_ (N := 1) (cs := #[.int .i64 1, .int .i64 a, .int .i64 c, .slice A v.length cc, .int .i64 t, .int .i64 n, .int .i64 o]) (t := 31) ?_; intro g hg w1 hb HB; have XB := Aside0.mk HB; have BK := Aside0.mk hb; obtain ⟨k0, k1, k2, k3, k4, k5, k6⟩ := cells7 hb; clear hg hb HB) | (go_at_call 28; refine (is_c _ _).mono ?_; rintro e w' ⟨rfl, rfl⟩) | (go_at_call 26; refine (refspan_c _ _ _ (by omega) (by omega)).mono ?_; rintro e w' ⟨rfl, rfl⟩))
    go_ret
    exact ⟨rfl, XB.out⟩
  ·have z1 : (o == 0) = false := by simpa using hz1
   clear hz1
   by_cases hz2 : ((v.length : Int) == 0) = true
   ·have z2 : ((v.length : Int) == 0) = true := hz2; clear hz2
    have HR : Aside0 (chkB 1 a c v t n o = false) := ⟨by simp_all [chkB, wB] <;> (intros; omega)⟩
    rw [HR.out]
    go_enter Try.func10, Try.ntmps10
    go_wp2_with (first | ((with_reducible refine gate_dst (N := 1) rfl ?_); refine bx_ (N := 1) (cs := #[.int .i64 1, .int .i64 a, .int .i64 c, .slice A v.length cc, .int .i64 t, .int .i64 n, .int .i64 o]) (t := 31) ?_; intro g hg w1 hb HB; have XB := Aside0.mk HB; have BK := Aside0.mk hb; obtain ⟨k0, k1, k2, k3, k4, k5, k6⟩ := cells7 hb; clear hg hb HB) | (go_at_call 28; refine (is_c _ _).mono ?_; rintro e w' ⟨rfl, rfl⟩) | (go_at_call 26; refine (refspan_c _ _ _ (by omega) (by omega)).mono ?_; rintro e w' ⟨rfl, rfl⟩))
    go_ret
    exact ⟨rfl, XB.out⟩
   ·have z2 : ((v.length : Int) == 0) = false := by simpa using hz2
    clear hz2
    have HR : Aside0 (chkB 1 a c v t n o = false) := ⟨by simp_all [chkB, wB] <;> (intros; omega)⟩
    rw [HR.out]
    go_enter Try.func10, Try.ntmps10
    go_wp2_with (first | ((with_reducible refine gate_dst (N := 1) rfl ?_); refine bx_ (N := 1) (cs := #[.int .i64 1, .int .i64 a, .int .i64 c, .slice A v.length cc, .int .i64 t, .int .i64 n, .int .i64 o]) (t := 31) ?_; intro g hg w1 hb HB; have XB := Aside0.mk HB; have BK := Aside0.mk hb; obtain ⟨k0, k1, k2, k3, k4, k5, k6⟩ := cells7 hb; clear hg hb HB) | (go_at_call 28; refine (is_c _ _).mono ?_; rintro e w' ⟨rfl, rfl⟩) | (go_at_call 26; refine (refspan_c _ _ _ (by omega) (by omega)).mono ?_; rintro e w' ⟨rfl, rfl⟩))
    go_ret
    exact ⟨rfl, XB.out⟩
 ·have z0 : (n == 0) = false := by simpa using hz0
  clear hz0
  by_cases hz1 : ((v.length : Int) == 0) = true
  ·have z1 : ((v.length : Int) == 0) = true := hz1; clear hz1
   have HR : Aside0 (chkB 1 a c v t n o = false) := ⟨by simp_all [chkB, wB] <;> (intros; omega)⟩
   rw [HR.out]
   go_enter Try.func10, Try.ntmps10
   go_wp2_with (first | ((with_reducible refine gate_dst (N := 1) rfl ?_); refine bx_ (N := 1) (cs := #[.int .i64 1, .int .i64 a, .int .i64 c, .slice A v.length cc, .int .i64 t, .int .i64 n, .int .i64 o]) (t := 31) ?_; intro g hg w1 hb HB; have XB := Aside0.mk HB; have BK := Aside0.mk hb; obtain ⟨k0, k1, k2, k3, k4, k5, k6⟩ := cells7 hb; clear hg hb HB) | (go_at_call 28; refine (is_c _ _).mono ?_; rintro e w' ⟨rfl, rfl⟩) | (go_at_call 26; refine (refspan_c _ _ _ (by omega) (by omega)).mono ?_; rintro e w' ⟨rfl, rfl⟩))
   go_ret
   exact ⟨rfl, XB.out⟩
  ·have z1 : ((v.length : Int) == 0) = false := by simpa using hz1
   clear hz1
   have HR : Aside0 (chkB 1 a c v t n o = false) := ⟨by simp_all [chkB, wB] <;> (intros; omega)⟩
   rw [HR.out]
   go_enter Try.func10, Try.ntmps10
   go_wp2_with (first | ((with_reducible refine gate_dst (N := 1) rfl ?_); refine bx_ (N := 1) (cs := #[.int .i64 1, .int .i64 a, .int .i64 c, .slice A v.length cc, .int .i64 t, .int .i64 n, .int .i64 o]) (t := 31) ?_; intro g hg w1 hb HB; have XB := Aside0.mk HB; have BK := Aside0.mk hb; obtain ⟨k0, k1, k2, k3, k4, k5, k6⟩ := cells7 hb; clear hg hb HB) | (go_at_call 28; refine (is_c _ _).mono ?_; rintro e w' ⟨rfl, rfl⟩) | (go_at_call 26; refine (refspan_c _ _ _ (by omega) (by omega)).mono ?_; rintro e w' ⟨rfl, rfl⟩))
   go_ret
   exact ⟨rfl, XB.out⟩
set_option maxHeartbeats 4000000 in
set_option maxRecDepth 100000 in
theorem may_2 (a c : Int) (A : Option Addr) (cc : Nat) (v : List Int) (t n o : Int) (w : World) (hV : Kd.C (Kd.int .i64) w A v.length v) : Calls Try.prog 10 #[.agg #[.int .i64 2, .int .i64 a, .int .i64 c, .slice A v.length cc, .int .i64 t, .int .i64 n, .int .i64 o]] w fun e w' => e = .returned (.bool (chkB 2 a c v t n o)) ∧ Below w.heap.size w w' := by
 have HV := Aside0.mk hV; clear hV
 by_cases hz0 : (n == 0) = true
 ·have z0 : (n == 0) = true := hz0; clear hz0
  by_cases hz1 : (o == 0) = true
  ·have z1 : (o == 0) = true := hz1; clear hz1
   by_cases hz2 : ((v.length : Int) == 0) = true
   ·have z2 : ((v.length : Int) == 0) = true := hz2; clear hz2
    by_cases hz3 : (t == 0) = true
    ·have z3 : (t == 0) = true := hz3; clear hz3
     by_cases hz4 : decide (1 ≤ c) = true
     ·have z4 : decide (1 ≤ c) = true := hz4; clear hz4; have pz4 := of_decide_eq_true z4
      by_cases hz5 : decide (c ≤ 2000) = true
      ·have z5 : decide (c ≤ 2000) = true := hz5; clear hz5; have pz5 := of_decide_eq_true z5
       by_cases hz6 : spB a c = true
       ·have z6 : spB a c = true := hz6; clear hz6
        have HR : Aside0 (chkB 2 a c v t n o = true) := ⟨by simp_all [chkB, wB] <;> (intros; omega)⟩
        rw [HR.out]
        go_enter Try.func10, Try.ntmps10
        go_wp2_with (first | ((with_reducible refine gate_dst (N := 1) rfl ?_); refine bx_ (N := 1) (cs := #[.int .i64 2, .int .i64 a, .int .i64 c, .slice A v.length cc, .int .i64 t, .int .i64 n, .int .i64 o]) (t := 31) ?_; intro g hg w1 hb HB; have XB := Aside0.mk HB; have BK := Aside0.mk hb; obtain ⟨k0, k1, k2, k3, k4, k5, k6⟩ := cells7 hb; clear hg hb HB) | (go_at_call 28; refine (is_c _ _).mono ?_; rintro e w' ⟨rfl, rfl⟩) | (go_at_call 26; refine (refspan_c _ _ _ (by omega) (by omega)).mono ?_; rintro e w' ⟨rfl, rfl⟩))
        go_ret
        exact ⟨rfl, XB.out⟩
       ·have z6 : spB a c = false := by simpa using hz6
        clear hz6
        have HR : Aside0 (chkB 2 a c v t n o = false) := ⟨by simp_all [chkB, wB] <;> (intros; omega)⟩
        rw [HR.out]
        go_enter Try.func10, Try.ntmps10
        go_wp2_with (first | ((with_reducible refine gate_dst (N := 1) rfl ?_); refine bx_ (N := 1) (cs := #[.int .i64 2, .int .i64 a, .int .i64 c, .slice A v.length cc, .int .i64 t, .int .i64 n, .int .i64 o]) (t := 31) ?_; intro g hg w1 hb HB; have XB := Aside0.mk HB; have BK := Aside0.mk hb; obtain ⟨k0, k1, k2, k3, k4, k5, k6⟩ := cells7 hb; clear hg hb HB) | (go_at_call 28; refine (is_c _ _).mono ?_; rintro e w' ⟨rfl, rfl⟩) | (go_at_call 26; refine (refspan_c _ _ _ (by omega) (by omega)).mono ?_; rintro e w' ⟨rfl, rfl⟩))
        go_ret
        exact ⟨rfl, XB.out⟩
      ·have z5 : decide (c ≤ 2000) = false := by simpa using hz5
       clear hz5
       have HR : Aside0 (chkB 2 a c v t n o = false) := ⟨by simp_all [chkB, wB] <;> (intros; omega)⟩
       rw [HR.out]
       go_enter Try.func10, Try.ntmps10
       go_wp2_with (first | ((with_reducible refine gate_dst (N := 1) rfl ?_); refine bx_ (N := 1) (cs := #[.int .i64 2, .int .i64 a, .int .i64 c, .slice A v.length cc, .int .i64 t, .int .i64 n, .int .i64 o]) (t := 31) ?_; intro g hg w1 hb HB; have XB := Aside0.mk HB; have BK := Aside0.mk hb; obtain ⟨k0, k1, k2, k3, k4, k5, k6⟩ := cells7 hb; clear hg hb HB) | (go_at_call 28; refine (is_c _ _).mono ?_; rintro e w' ⟨rfl, rfl⟩) | (go_at_call 26; refine (refspan_c _ _ _ (by omega) (by omega)).mono ?_; rintro e w' ⟨rfl, rfl⟩))
       go_ret
       exact ⟨rfl, XB.out⟩
     ·have z4 : decide (1 ≤ c) = false := by simpa using hz4
      clear hz4
      have HR : Aside0 (chkB 2 a c v t n o = false) := ⟨by simp_all [chkB, wB] <;> (intros; omega)⟩
      rw [HR.out]
      go_enter Try.func10, Try.ntmps10
      go_wp2_with (first | ((with_reducible refine gate_dst (N := 1) rfl ?_); refine bx_ (N := 1) (cs := #[.int .i64 2, .int .i64 a, .int .i64 c, .slice A v.length cc, .int .i64 t, .int .i64 n, .int .i64 o]) (t := 31) ?_; intro g hg w1 hb HB; have XB := Aside0.mk HB; have BK := Aside0.mk hb; obtain ⟨k0, k1, k2, k3, k4, k5, k6⟩ := cells7 hb; clear hg hb HB) | (go_at_call 28; refine (is_c _ _).mono ?_; rintro e w' ⟨rfl, rfl⟩) | (go_at_call 26; refine (refspan_c _ _ _ (by omega) (by omega)).mono ?_; rintro e w' ⟨rfl, rfl⟩))
      go_ret
      exact ⟨rfl, XB.out⟩
    ·have z3 : (t == 0) = false := by simpa using hz3
     clear hz3
     have HR : Aside0 (chkB 2 a c v t n o = false) := ⟨by simp_all [chkB, wB] <;> (intros; omega)⟩
     rw [HR.out]
     go_enter Try.func10, Try.ntmps10
     go_wp2_with (first | ((with_reducible refine gate_dst (N := 1) rfl ?_); refine bx_ (N := 1) (cs := #[.int .i64 2, .int .i64 a, .int .i64 c, .slice A v.length cc, .int .i64 t, .int .i64 n, .int .i64 o]) (t := 31) ?_; intro g hg w1 hb HB; have XB := Aside0.mk HB; have BK := Aside0.mk hb; obtain ⟨k0, k1, k2, k3, k4, k5, k6⟩ := cells7 hb; clear hg hb HB) | (go_at_call 28; refine (is_c _ _).mono ?_; rintro e w' ⟨rfl, rfl⟩) | (go_at_call 26; refine (refspan_c _ _ _ (by omega) (by omega)).mono ?_; rintro e w' ⟨rfl, rfl⟩))
     go_ret
     exact ⟨rfl, XB.out⟩
   ·have z2 : ((v.length : Int) == 0) = false := by simpa using hz2
    clear hz2
    have HR : Aside0 (chkB 2 a c v t n o = false) := ⟨by simp_all [chkB, wB] <;> (intros; omega)⟩
    rw [HR.out]
    go_enter Try.func10, Try.ntmps10
    go_wp2_with (first | ((with_reducible refine gate_dst (N := 1) rfl ?_); refine bx_ (N := 1) (cs := #[.int .i64 2, .int .i64 a, .int .i64 c, .slice A v.length cc, .int .i64 t, .int .i64 n, .int .i64 o]) (t := 31) ?_; intro g hg w1 hb HB; have XB := Aside0.mk HB; have BK := Aside0.mk hb; obtain ⟨k0, k1, k2, k3, k4, k5, k6⟩ := cells7 hb; clear hg hb HB) | (go_at_call 28; refine (is_c _ _).mono ?_; rintro e w' ⟨rfl, rfl⟩) | (go_at_call 26; refine (refspan_c _ _ _ (by omega) (by omega)).mono ?_; rintro e w' ⟨rfl, rfl⟩))
    go_ret
    exact ⟨rfl, XB.out⟩
  ·have z1 : (o == 0) = false := by simpa using hz1
   clear hz1
   by_cases hz2 : ((v.length : Int) == 0) = true
   ·have z2 : ((v.length : Int) == 0) = true := hz2; clear hz2
    have HR : Aside0 (chkB 2 a c v t n o = false) := ⟨by simp_all [chkB, wB] <;> (intros; omega)⟩
    rw [HR.out]
    go_enter Try.func10, Try.ntmps10
    go_wp2_with (first | ((with_reducible refine gate_dst (N := 1) rfl ?_); refine bx_ (N := 1) (cs := #[.int .i64 2, .int .i64 a, .int .i64 c, .slice A v.length cc, .int .i64 t, .int .i64 n, .int .i64 o]) (t := 31) ?_; intro g hg w1 hb HB; have XB := Aside0.mk HB; have BK := Aside0.mk hb; obtain ⟨k0, k1, k2, k3, k4, k5, k6⟩ := cells7 hb; clear hg hb HB) | (go_at_call 28; refine (is_c _ _).mono ?_; rintro e w' ⟨rfl, rfl⟩) | (go_at_call 26; refine (refspan_c _ _ _ (by omega) (by omega)).mono ?_; rintro e w' ⟨rfl, rfl⟩))
    go_ret
    exact ⟨rfl, XB.out⟩
   ·have z2 : ((v.length : Int) == 0) = false := by simpa using hz2
    clear hz2
    have HR : Aside0 (chkB 2 a c v t n o = false) := ⟨by simp_all [chkB, wB] <;> (intros; omega)⟩
    rw [HR.out]
    go_enter Try.func10, Try.ntmps10
    go_wp2_with (first | ((with_reducible refine gate_dst (N := 1) rfl ?_); refine bx_ (N := 1) (cs := #[.int .i64 2, .int .i64 a, .int .i64 c, .slice A v.length cc, .int .i64 t, .int .i64 n, .int .i64 o]) (t := 31) ?_; intro g hg w1 hb HB; have XB := Aside0.mk HB; have BK := Aside0.mk hb; obtain ⟨k0, k1, k2, k3, k4, k5, k6⟩ := cells7 hb; clear hg hb HB) | (go_at_call 28; refine (is_c _ _).mono ?_; rintro e w' ⟨rfl, rfl⟩) | (go_at_call 26; refine (refspan_c _ _ _ (by omega) (by omega)).mono ?_; rintro e w' ⟨rfl, rfl⟩))
    go_ret
    exact ⟨rfl, XB.out⟩
 ·have z0 : (n == 0) = false := by simpa using hz0
  clear hz0
  by_cases hz1 : ((v.length : Int) == 0) = true
  ·have z1 : ((v.length : Int) == 0) = true := hz1; clear hz1
   have HR : Aside0 (chkB 2 a c v t n o = false) := ⟨by simp_all [chkB, wB] <;> (intros; omega)⟩
   rw [HR.out]
   go_enter Try.func10, Try.ntmps10
   go_wp2_with (first | ((with_reducible refine gate_dst (N := 1) rfl ?_); refine bx_ (N := 1) (cs := #[.int .i64 2, .int .i64 a, .int .i64 c, .slice A v.length cc, .int .i64 t, .int .i64 n, .int .i64 o]) (t := 31) ?_; intro g hg w1 hb HB; have XB := Aside0.mk HB; have BK := Aside0.mk hb; obtain ⟨k0, k1, k2, k3, k4, k5, k6⟩ := cells7 hb; clear hg hb HB) | (go_at_call 28; refine (is_c _ _).mono ?_; rintro e w' ⟨rfl, rfl⟩) | (go_at_call 26; refine (refspan_c _ _ _ (by omega) (by omega)).mono ?_; rintro e w' ⟨rfl, rfl⟩))
   go_ret
   exact ⟨rfl, XB.out⟩
  ·have z1 : ((v.length : Int) == 0) = false := by simpa using hz1
   clear hz1
   have HR : Aside0 (chkB 2 a c v t n o = false) := ⟨by simp_all [chkB, wB] <;> (intros; omega)⟩
   rw [HR.out]
   go_enter Try.func10, Try.ntmps10
   go_wp2_with (first | ((with_reducible refine gate_dst (N := 1) rfl ?_); refine bx_ (N := 1) (cs := #[.int .i64 2, .int .i64 a, .int .i64 c, .slice A v.length cc, .int .i64 t, .int .i64 n, .int .i64 o]) (t := 31) ?_; intro g hg w1 hb HB; have XB := Aside0.mk HB; have BK := Aside0.mk hb; obtain ⟨k0, k1, k2, k3, k4, k5, k6⟩ := cells7 hb; clear hg hb HB) | (go_at_call 28; refine (is_c _ _).mono ?_; rintro e w' ⟨rfl, rfl⟩) | (go_at_call 26; refine (refspan_c _ _ _ (by omega) (by omega)).mono ?_; rintro e w' ⟨rfl, rfl⟩))
   go_ret
   exact ⟨rfl, XB.out⟩
end Go.Proofs.Ytlalpooiegganaa.Chk
end

section
namespace Go.Proofs.Ytlalpooiegganaa.Chk
open Go.RowKit Go.Proofs.YtlalpooiegganaaW.PrintWords Go.Proofs.YtlalpooiegganaaW.PrintLast Go.Proofs.YtlalpooiegganaaW.PrintMore Go.Proofs.Ytlalpooiegganaa.Core Go.Proofs.Ytlalpooiegganaa.Wk
set_option linter.unusedVariables false
set_option linter.unusedSimpArgs false
set_option maxHeartbeats 4000000 in
set_option maxRecDepth 100000 in
theorem may_3 (a c : Int) (A : Option Addr) (cc : Nat) (v : List Int) (t n o : Int) (w : World) (hV : Kd.C (Kd.int .i64) w A v.length v) : Calls Try.prog 10 #[.agg #[.int .i64 3, .int .i64 a, .int .i64 c, .slice A v.length cc, .int .i64 t, .int .i64 n, .int .i64 o]] w fun e w' => e = .returned (.bool (chkB 3 a c v t n o)) ∧ Below w.heap.size w w' := by
 have HV := Aside0.mk hV; clear hV
 by_cases hz0 : (n == 0) = true
 ·have z0 : (n == 0) = true := hz0; clear hz0
  by_cases hz1 : (o == 0) = true
  ·have z1 : (o == 0) = true := hz1; clear hz1
   by_cases hz2 : ((v.length : Int) == 0) = true
   ·have z2 : ((v.length : Int) == 0) = true := hz2; clear hz2
    by_cases hz3 : (t == 0) = true
    ·have z3 : (t == 0) = true := hz3; clear hz3
     by_cases hz4 : decide (1 ≤ c) = true
     ·have z4 : decide (1 ≤ c) = true := hz4; clear hz4; have pz4 := of_decide_eq_true z4
      by_cases hz5 : decide (c ≤ 125) = true
      ·have z5 : decide (c ≤ 125) = true := hz5; clear hz5; have pz5 := of_decide_eq_true z5
       by_cases hz6 : spB a c = true
       ·have z6 : spB a c = true := hz6; clear hz6
        have HR : Aside0 (chkB 3 a c v t n o = true) := ⟨by simp_all [chkB, wB] <;> (intros; omega)⟩
        rw [HR.out]
        go_enter Try.func10, Try.ntmps10
        go_wp2_with (first | ((with_reducible refine gate_dst (N := 1) rfl ?_); refine bx_ (N := 1) (cs := #[.int .i64 3, .int .i64 a, .int .i64 c, .slice A v.length cc, .int .i64 t, .int .i64 n, .int .i64 o]) (t := 31) ?_; intro g hg w1 hb HB; have XB := Aside0.mk HB; have BK := Aside0.mk hb; obtain ⟨k0, k1, k2, k3, k4, k5, k6⟩ := cells7 hb; clear hg hb HB) | (go_at_call 28; refine (is_c _ _).mono ?_; rintro e w' ⟨rfl, rfl⟩) | (go_at_call 26; refine (refspan_c _ _ _ (by omega) (by omega)).mono ?_; rintro e w' ⟨rfl, rfl⟩))
        go_ret
        exact ⟨rfl, XB.out⟩
       ·have z6 : spB a c = false := by simpa using hz6
        clear hz6
        have HR : Aside0 (chkB 3 a c v t n o = false) := ⟨by simp_all [chkB, wB] <;> (intros; omega)⟩
        rw [HR.out]
        go_enter Try.func10, Try.ntmps10
        go_wp2_with (first | ((with_reducible refine gate_dst (N := 1) rfl ?_); refine bx_ (N := 1) (cs := #[.int .i64 3, .int .i64 a, .int .i64 c, .slice A v.length cc, .int .i64 t, .int .i64 n, .int .i64 o]) (t := 31) ?_; intro g hg w1 hb HB; have XB := Aside0.mk HB; have BK := Aside0.mk hb; obtain ⟨k0, k1, k2, k3, k4, k5, k6⟩ := cells7 hb; clear hg hb HB) | (go_at_call 28; refine (is_c _ _).mono ?_; rintro e w' ⟨rfl, rfl⟩) | (go_at_call 26; refine (refspan_c _ _ _ (by omega) (by omega)).mono ?_; rintro e w' ⟨rfl, rfl⟩))
        go_ret
        exact ⟨rfl, XB.out⟩
      ·have z5 : decide (c ≤ 125) = false := by simpa using hz5
       clear hz5
       have HR : Aside0 (chkB 3 a c v t n o = false) := ⟨by simp_all [chkB, wB] <;> (intros; omega)⟩
       rw [HR.out]
       go_enter Try.func10, Try.ntmps10
       go_wp2_with (first | ((with_reducible refine gate_dst (N := 1) rfl ?_); refine bx_ (N := 1) (cs := #[.int .i64 3, .int .i64 a, .int .i64 c, .slice A v.length cc, .int .i64 t, .int .i64 n, .int .i64 o]) (t := 31) ?_; intro g hg w1 hb HB; have XB := Aside0.mk HB; have BK := Aside0.mk hb; obtain ⟨k0, k1, k2, k3, k4, k5, k6⟩ := cells7 hb; clear hg hb HB) | (go_at_call 28; refine (is_c _ _).mono ?_; rintro e w' ⟨rfl, rfl⟩) | (go_at_call 26; refine (refspan_c _ _ _ (by omega) (by omega)).mono ?_; rintro e w' ⟨rfl, rfl⟩))
       go_ret
       exact ⟨rfl, XB.out⟩
     ·have z4 : decide (1 ≤ c) = false := by simpa using hz4
      clear hz4
      have HR : Aside0 (chkB 3 a c v t n o = false) := ⟨by simp_all [chkB, wB] <;> (intros; omega)⟩
      rw [HR.out]
      go_enter Try.func10, Try.ntmps10
      go_wp2_with (first | ((with_reducible refine gate_dst (N := 1) rfl ?_); refine bx_ (N := 1) (cs := #[.int .i64 3, .int .i64 a, .int .i64 c, .slice A v.length cc, .int .i64 t, .int .i64 n, .int .i64 o]) (t := 31) ?_; intro g hg w1 hb HB; have XB := Aside0.mk HB; have BK := Aside0.mk hb; obtain ⟨k0, k1, k2, k3, k4, k5, k6⟩ := cells7 hb; clear hg hb HB) | (go_at_call 28; refine (is_c _ _).mono ?_; rintro e w' ⟨rfl, rfl⟩) | (go_at_call 26; refine (refspan_c _ _ _ (by omega) (by omega)).mono ?_; rintro e w' ⟨rfl, rfl⟩))
      go_ret
      exact ⟨rfl, XB.out⟩
    ·have z3 : (t == 0) = false := by simpa using hz3
     clear hz3
     have HR : Aside0 (chkB 3 a c v t n o = false) := ⟨by simp_all [chkB, wB] <;> (intros; omega)⟩
     rw [HR.out]
     go_enter Try.func10, Try.ntmps10
     go_wp2_with (first | ((with_reducible refine gate_dst (N := 1) rfl ?_); refine bx_ (N := 1) (cs := #[.int .i64 3, .int .i64 a, .int .i64 c, .slice A v.length cc, .int .i64 t, .int .i64 n, .int .i64 o]) (t := 31) ?_; intro g hg w1 hb HB; have XB := Aside0.mk HB; have BK := Aside0.mk hb; obtain ⟨k0, k1, k2, k3, k4, k5, k6⟩ := cells7 hb; clear hg hb HB) | (go_at_call 28; refine (is_c _ _).mono ?_; rintro e w' ⟨rfl, rfl⟩) | (go_at_call 26; refine (refspan_c _ _ _ (by omega) (by omega)).mono ?_; rintro e w' ⟨rfl, rfl⟩))
     go_ret
     exact ⟨rfl, XB.out⟩
   ·have z2 : ((v.length : Int) == 0) = false := by simpa using hz2
    clear hz2
    have HR : Aside0 (chkB 3 a c v t n o = false) := ⟨by simp_all [chkB, wB] <;> (intros; omega)⟩
    rw [HR.out]
    go_enter Try.func10, Try.ntmps10
    go_wp2_with (first | ((with_reducible refine gate_dst (N := 1) rfl ?_); refine bx_ (N := 1) (cs := #[.int .i64 3, .int .i64 a, .int .i64 c, .slice A v.length cc, .int .i64 t, .int .i64 n, .int .i64 o]) (t := 31) ?_; intro g hg w1 hb HB; have XB := Aside0.mk HB; have BK := Aside0.mk hb; obtain ⟨k0, k1, k2, k3, k4, k5, k6⟩ := cells7 hb; clear hg hb HB) | (go_at_call 28; refine (is_c _ _).mono ?_; rintro e w' ⟨rfl, rfl⟩) | (go_at_call 26; refine (refspan_c _ _ _ (by omega) (by omega)).mono ?_; rintro e w' ⟨rfl, rfl⟩))
    go_ret
    exact ⟨rfl, XB.out⟩
  ·have z1 : (o == 0) = false := by simpa using hz1
   clear hz1
   by_cases hz2 : ((v.length : Int) == 0) = true
   ·have z2 : ((v.length : Int) == 0) = true := hz2; clear hz2
    have HR : Aside0 (chkB 3 a c v t n o = false) := ⟨by simp_all [chkB, wB] <;> (intros; omega)⟩
    rw [HR.out]
    go_enter Try.func10, Try.ntmps10
    go_wp2_with (first | ((with_reducible refine gate_dst (N := 1) rfl ?_); refine bx_ (N := 1) (cs := #[.int .i64 3, .int .i64 a, .int .i64 c, .slice A v.length cc, .int .i64 t, .int .i64 n, .int .i64 o]) (t := 31) ?_; intro g hg w1 hb HB; have XB := Aside0.mk HB; have BK := Aside0.mk hb; obtain ⟨k0, k1, k2, k3, k4, k5, k6⟩ := cells7 hb; clear hg hb HB) | (go_at_call 28; refine (is_c _ _).mono ?_; rintro e w' ⟨rfl, rfl⟩) | (go_at_call 26; refine (refspan_c _ _ _ (by omega) (by omega)).mono ?_; rintro e w' ⟨rfl, rfl⟩))
    go_ret
    exact ⟨rfl, XB.out⟩
   ·have z2 : ((v.length : Int) == 0) = false := by simpa using hz2
    clear hz2
    have HR : Aside0 (chkB 3 a c v t n o = false) := ⟨by simp_all [chkB, wB] <;> (intros; omega)⟩
    rw [HR.out]
    go_enter Try.func10, Try.ntmps10
    go_wp2_with (first | ((with_reducible refine gate_dst (N := 1) rfl ?_); refine bx_ (N := 1) (cs := #[.int .i64 3, .int .i64 a, .int .i64 c, .slice A v.length cc, .int .i64 t, .int .i64 n, .int .i64 o]) (t := 31) ?_; intro g hg w1 hb HB; have XB := Aside0.mk HB; have BK := Aside0.mk hb; obtain ⟨k0, k1, k2, k3, k4, k5, k6⟩ := cells7 hb; clear hg hb HB) | (go_at_call 28; refine (is_c _ _).mono ?_; rintro e w' ⟨rfl, rfl⟩) | (go_at_call 26; refine (refspan_c _ _ _ (by omega) (by omega)).mono ?_; rintro e w' ⟨rfl, rfl⟩))
    go_ret
    exact ⟨rfl, XB.out⟩
 ·have z0 : (n == 0) = false := by simpa using hz0
  clear hz0
  by_cases hz1 : ((v.length : Int) == 0) = true
  ·have z1 : ((v.length : Int) == 0) = true := hz1; clear hz1
   have HR : Aside0 (chkB 3 a c v t n o = false) := ⟨by simp_all [chkB, wB] <;> (intros; omega)⟩
   rw [HR.out]
   go_enter Try.func10, Try.ntmps10
   go_wp2_with (first | ((with_reducible refine gate_dst (N := 1) rfl ?_); refine bx_ (N := 1) (cs := #[.int .i64 3, .int .i64 a, .int .i64 c, .slice A v.length cc, .int .i64 t, .int .i64 n, .int .i64 o]) (t := 31) ?_; intro g hg w1 hb HB; have XB := Aside0.mk HB; have BK := Aside0.mk hb; obtain ⟨k0, k1, k2, k3, k4, k5, k6⟩ := cells7 hb; clear hg hb HB) | (go_at_call 28; refine (is_c _ _).mono ?_; rintro e w' ⟨rfl, rfl⟩) | (go_at_call 26; refine (refspan_c _ _ _ (by omega) (by omega)).mono ?_; rintro e w' ⟨rfl, rfl⟩))
   go_ret
   exact ⟨rfl, XB.out⟩
  ·have z1 : ((v.length : Int) == 0) = false := by simpa using hz1
   clear hz1
   have HR : Aside0 (chkB 3 a c v t n o = false) := ⟨by simp_all [chkB, wB] <;> (intros; omega)⟩
   rw [HR.out]
   go_enter Try.func10, Try.ntmps10
   go_wp2_with (first | ((with_reducible refine gate_dst (N := 1) rfl ?_); refine bx_ (N := 1) (cs := #[.int .i64 3, .int .i64 a, .int .i64 c, .slice A v.length cc, .int .i64 t, .int .i64 n, .int .i64 o]) (t := 31) ?_; intro g hg w1 hb HB; have XB := Aside0.mk HB; have BK := Aside0.mk hb; obtain ⟨k0, k1, k2, k3, k4, k5, k6⟩ := cells7 hb; clear hg hb HB) | (go_at_call 28; refine (is_c _ _).mono ?_; rintro e w' ⟨rfl, rfl⟩) | (go_at_call 26; refine (refspan_c _ _ _ (by omega) (by omega)).mono ?_; rintro e w' ⟨rfl, rfl⟩))
   go_ret
   exact ⟨rfl, XB.out⟩
set_option maxHeartbeats 4000000 in
set_option maxRecDepth 100000 in
theorem may_4 (a c : Int) (A : Option Addr) (cc : Nat) (v : List Int) (t n o : Int) (w : World) (hV : Kd.C (Kd.int .i64) w A v.length v) : Calls Try.prog 10 #[.agg #[.int .i64 4, .int .i64 a, .int .i64 c, .slice A v.length cc, .int .i64 t, .int .i64 n, .int .i64 o]] w fun e w' => e = .returned (.bool (chkB 4 a c v t n o)) ∧ Below w.heap.size w w' := by
 have HV := Aside0.mk hV; clear hV
 by_cases hz0 : (n == 0) = true
 ·have z0 : (n == 0) = true := hz0; clear hz0
  by_cases hz1 : (o == 0) = true
  ·have z1 : (o == 0) = true := hz1; clear hz1
   by_cases hz2 : ((v.length : Int) == 0) = true
   ·have z2 : ((v.length : Int) == 0) = true := hz2; clear hz2
    by_cases hz3 : (t == 0) = true
    ·have z3 : (t == 0) = true := hz3; clear hz3
     by_cases hz4 : decide (1 ≤ c) = true
     ·have z4 : decide (1 ≤ c) = true := hz4; clear hz4; have pz4 := of_decide_eq_true z4
      by_cases hz5 : decide (c ≤ 125) = true
      ·have z5 : decide (c ≤ 125) = true := hz5; clear hz5; have pz5 := of_decide_eq_true z5
       by_cases hz6 : spB a c = true
       ·have z6 : spB a c = true := hz6; clear hz6
        have HR : Aside0 (chkB 4 a c v t n o = true) := ⟨by simp_all [chkB, wB] <;> (intros; omega)⟩
        rw [HR.out]
        go_enter Try.func10, Try.ntmps10
        go_wp2_with (first | ((with_reducible refine gate_dst (N := 1) rfl ?_); refine bx_ (N := 1) (cs := #[.int .i64 4, .int .i64 a, .int .i64 c, .slice A v.length cc, .int .i64 t, .int .i64 n, .int .i64 o]) (t := 31) ?_; intro g hg w1 hb HB; have XB := Aside0.mk HB; have BK := Aside0.mk hb; obtain ⟨k0, k1, k2, k3, k4, k5, k6⟩ := cells7 hb; clear hg hb HB) | (go_at_call 28; refine (is_c _ _).mono ?_; rintro e w' ⟨rfl, rfl⟩) | (go_at_call 26; refine (refspan_c _ _ _ (by omega) (by omega)).mono ?_; rintro e w' ⟨rfl, rfl⟩))
        go_ret
        exact ⟨rfl, XB.out⟩
       ·have z6 : spB a c = false := by simpa using hz6
        clear hz6
        have HR : Aside0 (chkB 4 a c v t n o = false) := ⟨by simp_all [chkB, wB] <;> (intros; omega)⟩
        rw [HR.out]
        go_enter Try.func10, Try.ntmps10
        go_wp2_with (first | ((with_reducible refine gate_dst (N := 1) rfl ?_); refine bx_ (N := 1) (cs := #[.int .i64 4, .int .i64 a, .int .i64 c, .slice A v.length cc, .int .i64 t, .int .i64 n, .int .i64 o]) (t := 31) ?_; intro g hg w1 hb HB; have XB := Aside0.mk HB; have BK := Aside0.mk hb; obtain ⟨k0, k1, k2, k3, k4, k5, k6⟩ := cells7 hb; clear hg hb HB) | (go_at_call 28; refine (is_c _ _).mono ?_; rintro e w' ⟨rfl, rfl⟩) | (go_at_call 26; refine (refspan_c _ _ _ (by omega) (by omega)).mono ?_; rintro e w' ⟨rfl, rfl⟩))
        go_ret
        exact ⟨rfl, XB.out⟩
      ·have z5 : decide (c ≤ 125) = false := by simpa using hz5
       clear hz5
       have HR : Aside0 (chkB 4 a c v t n o = false) := ⟨by simp_all [chkB, wB] <;> (intros; omega)⟩
       rw [HR.out]
       go_enter Try.func10, Try.ntmps10
       go_wp2_with (first | ((with_reducible refine gate_dst (N := 1) rfl ?_); refine bx_ (N := 1) (cs := #[.int .i64 4, .int .i64 a, .int .i64 c, .slice A v.length cc, .int .i64 t, .int .i64 n, .int .i64 o]) (t := 31) ?_; intro g hg w1 hb HB; have XB := Aside0.mk HB; have BK := Aside0.mk hb; obtain ⟨k0, k1, k2, k3, k4, k5, k6⟩ := cells7 hb; clear hg hb HB) | (go_at_call 28; refine (is_c _ _).mono ?_; rintro e w' ⟨rfl, rfl⟩) | (go_at_call 26; refine (refspan_c _ _ _ (by omega) (by omega)).mono ?_; rintro e w' ⟨rfl, rfl⟩))
       go_ret
       exact ⟨rfl, XB.out⟩
     ·have z4 : decide (1 ≤ c) = false := by simpa using hz4
      clear hz4
      have HR : Aside0 (chkB 4 a c v t n o = false) := ⟨by simp_all [chkB, wB] <;> (intros; omega)⟩
      rw [HR.out]
      go_enter Try.func10, Try.ntmps10
      go_wp2_with (first | ((with_reducible refine gate_dst (N := 1) rfl ?_); refine bx_ (N := 1) (cs := #[.int .i64 4, .int .i64 a, .int .i64 c, .slice A v.length cc, .int .i64 t, .int .i64 n, .int .i64 o]) (t := 31) ?_; intro g hg w1 hb HB; have XB := Aside0.mk HB; have BK := Aside0.mk hb; obtain ⟨k0, k1, k2, k3, k4, k5, k6⟩ := cells7 hb; clear hg hb HB) | (go_at_call 28; refine (is_c _ _).mono ?_; rintro e w' ⟨rfl, rfl⟩) | (go_at_call 26; refine (refspan_c _ _ _ (by omega) (by omega)).mono ?_; rintro e w' ⟨rfl, rfl⟩))
      go_ret
      exact ⟨rfl, XB.out⟩
    ·have z3 : (t == 0) = false := by simpa using hz3
     clear hz3
     have HR : Aside0 (chkB 4 a c v t n o = false) := ⟨by simp_all [chkB, wB] <;> (intros; omega)⟩
     rw [HR.out]
     go_enter Try.func10, Try.ntmps10
     go_wp2_with (first | ((with_reducible refine gate_dst (N := 1) rfl ?_); refine bx_ (N := 1) (cs := #[.int .i64 4, .int .i64 a, .int .i64 c, .slice A v.length cc, .int .i64 t, .int .i64 n, .int .i64 o]) (t := 31) ?_; intro g hg w1 hb HB; have XB := Aside0.mk HB; have BK := Aside0.mk hb; obtain ⟨k0, k1, k2, k3, k4, k5, k6⟩ := cells7 hb; clear hg hb HB) | (go_at_call 28; refine (is_c _ _).mono ?_; rintro e w' ⟨rfl, rfl⟩) | (go_at_call 26; refine (refspan_c _ _ _ (by omega) (by omega)).mono ?_; rintro e w' ⟨rfl, rfl⟩))
     go_ret
     exact ⟨rfl, XB.out⟩
   ·have z2 : ((v.length : Int) == 0) = false := by simpa using hz2
    clear hz2
    have HR : Aside0 (chkB 4 a c v t n o = false) := ⟨by simp_all [chkB, wB] <;> (intros; omega)⟩
    rw [HR.out]
    go_enter Try.func10, Try.ntmps10
    go_wp2_with (first | ((with_reducible refine gate_dst (N := 1) rfl ?_); refine bx_ (N := 1) (cs := #[.int .i64 4, .int .i64 a, .int .i64 c, .slice A v.length cc, .int .i64 t, .int .i64 n, .int .i64 o]) (t := 31) ?_; intro g hg w1 hb HB; have XB := Aside0.mk HB; have BK := Aside0.mk hb; obtain ⟨k0, k1, k2, k3, k4, k5, k6⟩ := cells7 hb; clear hg hb HB) | (go_at_call 28; refine (is_c _ _).mono ?_; rintro e w' ⟨rfl, rfl⟩) | (go_at_call 26; refine (refspan_c _ _ _ (by omega) (by omega)).mono ?_; rintro e w' ⟨rfl, rfl⟩))
    go_ret
    exact ⟨rfl, XB.out⟩
  ·have z1 : (o == 0) = false := by simpa using hz1
   clear hz1
   by_cases hz2 : ((v.length : Int) == 0) = true
   ·have z2 : ((v.length : Int) == 0) = true := hz2; clear hz2
    have HR : Aside0 (chkB 4 a c v t n o = false) := ⟨by simp_all [chkB, wB] <;> (intros; omega)⟩
    rw [HR.out]
    go_enter Try.func10, Try.ntmps10
    go_wp2_with (first | ((with_reducible refine gate_dst (N := 1) rfl ?_); refine bx_ (N := 1) (cs := #[.int .i64 4, .int .i64 a, .int .i64 c, .slice A v.length cc, .int .i64 t, .int .i64 n, .int .i64 o]) (t := 31) ?_; intro g hg w1 hb HB; have XB := Aside0.mk HB; have BK := Aside0.mk hb; obtain ⟨k0, k1, k2, k3, k4, k5, k6⟩ := cells7 hb; clear hg hb HB) | (go_at_call 28; refine (is_c _ _).mono ?_; rintro e w' ⟨rfl, rfl⟩) | (go_at_call 26; refine (refspan_c _ _ _ (by omega) (by omega)).mono ?_; rintro e w' ⟨rfl, rfl⟩))
    go_ret
    exact ⟨rfl, XB.out⟩
   ·have z2 : ((v.length : Int) == 0) = false := by simpa using hz2
    clear hz2
    have HR : Aside0 (chkB 4 a c v t n o = false) := ⟨by simp_all [chkB, wB] <;> (intros; omega)⟩
    rw [HR.out]
    go_enter Try.func10, Try.ntmps10
    go_wp2_with (first | ((with_reducible refine gate_dst (N := 1) rfl ?_); refine bx_ (N := 1) (cs := #[.int .i64 4, .int .i64 a, .int .i64 c, .slice A v.length cc, .int .i64 t, .int .i64 n, .int .i64 o]) (t := 31) ?_; intro g hg w1 hb HB; have XB := Aside0.mk HB; have BK := Aside0.mk hb; obtain ⟨k0, k1, k2, k3, k4, k5, k6⟩ := cells7 hb; clear hg hb HB) | (go_at_call 28; refine (is_c _ _).mono ?_; rintro e w' ⟨rfl, rfl⟩) | (go_at_call 26; refine (refspan_c _ _ _ (by omega) (by omega)).mono ?_; rintro e w' ⟨rfl, rfl⟩))
    go_ret
    exact ⟨rfl, XB.out⟩
 ·have z0 : (n == 0) = false := by simpa using hz0
  clear hz0
  by_cases hz1 : ((v.length : Int) == 0) = true
  ·have z1 : ((v.length : Int) == 0) = true := hz1; clear hz1
   have HR : Aside0 (chkB 4 a c v t n o = false) := ⟨by simp_all [chkB, wB] <;> (intros; omega)⟩
   rw [HR.out]
   go_enter Try.func10, Try.ntmps10
   go_wp2_with (first | ((with_reducible refine gate_dst (N := 1) rfl ?_); refine bx_ (N := 1) (cs := #[.int .i64 4, .int .i64 a, .int .i64 c, .slice A v.length cc, .int .i64 t, .int .i64 n, .int .i64 o]) (t := 31) ?_; intro g hg w1 hb HB; have XB := Aside0.mk HB; have BK := Aside0.mk hb; obtain ⟨k0, k1, k2, k3, k4, k5, k6⟩ := cells7 hb; clear hg hb HB) | (go_at_call 28; refine (is_c _ _).mono ?_; rintro e w' ⟨rfl, rfl⟩) | (go_at_call 26; refine (refspan_c _ _ _ (by omega) (by omega)).mono ?_; rintro e w' ⟨rfl, rfl⟩))
   go_ret
   exact ⟨rfl, XB.out⟩
  ·have z1 : ((v.length : Int) == 0) = false := by simpa using hz1
   clear hz1
   have HR : Aside0 (chkB 4 a c v t n o = false) := ⟨by simp_all [chkB, wB] <;> (intros; omega)⟩
   rw [HR.out]
   go_enter Try.func10, Try.ntmps10
   go_wp2_with (first | ((with_reducible refine gate_dst (N := 1) rfl ?_); refine bx_ (N := 1) (cs := #[.int .i64 4, .int .i64 a, .int .i64 c, .slice A v.length cc, .int .i64 t, .int .i64 n, .int .i64 o]) (t := 31) ?_; intro g hg w1 hb HB; have XB := Aside0.mk HB; have BK := Aside0.mk hb; obtain ⟨k0, k1, k2, k3, k4, k5, k6⟩ := cells7 hb; clear hg hb HB) | (go_at_call 28; refine (is_c _ _).mono ?_; rintro e w' ⟨rfl, rfl⟩) | (go_at_call 26; refine (refspan_c _ _ _ (by omega) (by omega)).mono ?_; rintro e w' ⟨rfl, rfl⟩))
   go_ret
   exact ⟨rfl, XB.out⟩
end Go.Proofs.Ytlalpooiegganaa.Chk
end

section
namespace Go.Proofs.Ytlalpooiegganaa.Chk
open Go.RowKit Go.Proofs.YtlalpooiegganaaW.PrintWords Go.Proofs.YtlalpooiegganaaW.PrintLast Go.Proofs.YtlalpooiegganaaW.PrintMore Go.Proofs.Ytlalpooiegganaa.Core Go.Proofs.Ytlalpooiegganaa.Wk
set_option linter.unusedVariables false
set_option linter.unusedSimpArgs false
set_option maxHeartbeats 4000000 in
set_option maxRecDepth 100000 in
theorem may_5 (a c : Int) (A : Option Addr) (cc : Nat) (v : List Int) (t n o : Int) (w : World) (hV : Kd.C (Kd.int .i64) w A v.length v) : Calls Try.prog 10 #[.agg #[.int .i64 5, .int .i64 a, .int .i64 c, .slice A v.length cc, .int .i64 t, .int .i64 n, .int .i64 o]] w fun e w' => e = .returned (.bool (chkB 5 a c v t n o)) ∧ Below w.heap.size w w' := by
 have HV := Aside0.mk hV; clear hV
 by_cases hz0 : (n == 0) = true
 ·have z0 : (n == 0) = true := hz0; clear hz0
  by_cases hz1 : (o == 0) = true
  ·have z1 : (o == 0) = true := hz1; clear hz1
   by_cases hz2 : (t == 0) = true
   ·have z2 : (t == 0) = true := hz2; clear hz2
    by_cases hz3 : (c == 0) = true
    ·have z3 : (c == 0) = true := hz3; clear hz3
     by_cases hz4 : smB 1 1 1 v = true
     ·have z4 : smB 1 1 1 v = true := hz4; clear hz4; have pz4 := smB_len z4
      by_cases hz5 : spB a 1 = true
      ·have z5 : spB a 1 = true := hz5; clear hz5
       have HR : Aside0 (chkB 5 a c v t n o = true) := ⟨by simp_all [chkB, wB] <;> (intros; omega)⟩
       rw [HR.out]
       go_enter Try.func10, Try.ntmps10
       go_wp2_with (first | ((with_reducible refine gate_dst (N := 1) rfl ?_); refine bx_ (N := 1) (cs := #[.int .i64 5, .int .i64 a, .int .i64 c, .slice A v.length cc, .int .i64 t, .int .i64 n, .int .i64 o]) (t := 31) ?_; intro g hg w1 hb HB; have XB := Aside0.mk HB; have BK := Aside0.mk hb; obtain ⟨k0, k1, k2, k3, k4, k5, k6⟩ := cells7 hb; clear hg hb HB) | (go_at_call 28; refine (is_c _ _).mono ?_; rintro e w' ⟨rfl, rfl⟩) | (go_at_call 26; refine (refspan_c _ _ _ (by omega) (by omega)).mono ?_; rintro e w' ⟨rfl, rfl⟩) | (go_at_call 27; refine (vals_c 5 a c A cc v t n o _ _ _ (Kd.C_below HV.out XB.out) (m := 1) (by decide)).mono ?_; rintro e w2 ⟨rfl, HB⟩; have XBn := Aside0.mk (below_step XB.out HB); have BKn := Aside0.mk (blk_below BK.out HB); obtain ⟨k0, k1, k2, k3, k4, k5, k6⟩ := cells7 BKn.out; clear HB XB BK; have XB := XBn; have BK := BKn))
       go_ret
       exact ⟨rfl, XB.out⟩
      ·have z5 : spB a 1 = false := by simpa using hz5
       clear hz5
       have HR : Aside0 (chkB 5 a c v t n o = false) := ⟨by simp_all [chkB, wB] <;> (intros; omega)⟩
       rw [HR.out]
       go_enter Try.func10, Try.ntmps10
       go_wp2_with (first | ((with_reducible refine gate_dst (N := 1) rfl ?_); refine bx_ (N := 1) (cs := #[.int .i64 5, .int .i64 a, .int .i64 c, .slice A v.length cc, .int .i64 t, .int .i64 n, .int .i64 o]) (t := 31) ?_; intro g hg w1 hb HB; have XB := Aside0.mk HB; have BK := Aside0.mk hb; obtain ⟨k0, k1, k2, k3, k4, k5, k6⟩ := cells7 hb; clear hg hb HB) | (go_at_call 28; refine (is_c _ _).mono ?_; rintro e w' ⟨rfl, rfl⟩) | (go_at_call 26; refine (refspan_c _ _ _ (by omega) (by omega)).mono ?_; rintro e w' ⟨rfl, rfl⟩) | (go_at_call 27; refine (vals_c 5 a c A cc v t n o _ _ _ (Kd.C_below HV.out XB.out) (m := 1) (by decide)).mono ?_; rintro e w2 ⟨rfl, HB⟩; have XBn := Aside0.mk (below_step XB.out HB); have BKn := Aside0.mk (blk_below BK.out HB); obtain ⟨k0, k1, k2, k3, k4, k5, k6⟩ := cells7 BKn.out; clear HB XB BK; have XB := XBn; have BK := BKn))
       go_ret
       exact ⟨rfl, XB.out⟩
     ·have z4 : smB 1 1 1 v = false := by simpa using hz4
      clear hz4
      have HR : Aside0 (chkB 5 a c v t n o = false) := ⟨by simp_all [chkB, wB] <;> (intros; omega)⟩
      rw [HR.out]
      go_enter Try.func10, Try.ntmps10
      go_wp2_with (first | ((with_reducible refine gate_dst (N := 1) rfl ?_); refine bx_ (N := 1) (cs := #[.int .i64 5, .int .i64 a, .int .i64 c, .slice A v.length cc, .int .i64 t, .int .i64 n, .int .i64 o]) (t := 31) ?_; intro g hg w1 hb HB; have XB := Aside0.mk HB; have BK := Aside0.mk hb; obtain ⟨k0, k1, k2, k3, k4, k5, k6⟩ := cells7 hb; clear hg hb HB) | (go_at_call 28; refine (is_c _ _).mono ?_; rintro e w' ⟨rfl, rfl⟩) | (go_at_call 26; refine (refspan_c _ _ _ (by omega) (by omega)).mono ?_; rintro e w' ⟨rfl, rfl⟩) | (go_at_call 27; refine (vals_c 5 a c A cc v t n o _ _ _ (Kd.C_below HV.out XB.out) (m := 1) (by decide)).mono ?_; rintro e w2 ⟨rfl, HB⟩; have XBn := Aside0.mk (below_step XB.out HB); have BKn := Aside0.mk (blk_below BK.out HB); obtain ⟨k0, k1, k2, k3, k4, k5, k6⟩ := cells7 BKn.out; clear HB XB BK; have XB := XBn; have BK := BKn))
      go_ret
      exact ⟨rfl, XB.out⟩
    ·have z3 : (c == 0) = false := by simpa using hz3
     clear hz3
     have HR : Aside0 (chkB 5 a c v t n o = false) := ⟨by simp_all [chkB, wB] <;> (intros; omega)⟩
     rw [HR.out]
     go_enter Try.func10, Try.ntmps10
     go_wp2_with (first | ((with_reducible refine gate_dst (N := 1) rfl ?_); refine bx_ (N := 1) (cs := #[.int .i64 5, .int .i64 a, .int .i64 c, .slice A v.length cc, .int .i64 t, .int .i64 n, .int .i64 o]) (t := 31) ?_; intro g hg w1 hb HB; have XB := Aside0.mk HB; have BK := Aside0.mk hb; obtain ⟨k0, k1, k2, k3, k4, k5, k6⟩ := cells7 hb; clear hg hb HB) | (go_at_call 28; refine (is_c _ _).mono ?_; rintro e w' ⟨rfl, rfl⟩) | (go_at_call 26; refine (refspan_c _ _ _ (by omega) (by omega)).mono ?_; rintro e w' ⟨rfl, rfl⟩) | (go_at_call 27; refine (vals_c 5 a c A cc v t n o _ _ _ (Kd.C_below HV.out XB.out) (m := 1) (by decide)).mono ?_; rintro e w2 ⟨rfl, HB⟩; have XBn := Aside0.mk (below_step XB.out HB); have BKn := Aside0.mk (blk_below BK.out HB); obtain ⟨k0, k1, k2, k3, k4, k5, k6⟩ := cells7 BKn.out; clear HB XB BK; have XB := XBn; have BK := BKn))
     go_ret
     exact ⟨rfl, XB.out⟩
   ·have z2 : (t == 0) = false := by simpa using hz2
    clear hz2
    have HR : Aside0 (chkB 5 a c v t n o = false) := ⟨by simp_all [chkB, wB] <;> (intros; omega)⟩
    rw [HR.out]
    go_enter Try.func10, Try.ntmps10
    go_wp2_with (first | ((with_reducible refine gate_dst (N := 1) rfl ?_); refine bx_ (N := 1) (cs := #[.int .i64 5, .int .i64 a, .int .i64 c, .slice A v.length cc, .int .i64 t, .int .i64 n, .int .i64 o]) (t := 31) ?_; intro g hg w1 hb HB; have XB := Aside0.mk HB; have BK := Aside0.mk hb; obtain ⟨k0, k1, k2, k3, k4, k5, k6⟩ := cells7 hb; clear hg hb HB) | (go_at_call 28; refine (is_c _ _).mono ?_; rintro e w' ⟨rfl, rfl⟩) | (go_at_call 26; refine (refspan_c _ _ _ (by omega) (by omega)).mono ?_; rintro e w' ⟨rfl, rfl⟩) | (go_at_call 27; refine (vals_c 5 a c A cc v t n o _ _ _ (Kd.C_below HV.out XB.out) (m := 1) (by decide)).mono ?_; rintro e w2 ⟨rfl, HB⟩; have XBn := Aside0.mk (below_step XB.out HB); have BKn := Aside0.mk (blk_below BK.out HB); obtain ⟨k0, k1, k2, k3, k4, k5, k6⟩ := cells7 BKn.out; clear HB XB BK; have XB := XBn; have BK := BKn))
    go_ret
    exact ⟨rfl, XB.out⟩
  ·have z1 : (o == 0) = false := by simpa using hz1
   clear hz1
   have HR : Aside0 (chkB 5 a c v t n o = false) := ⟨by simp_all [chkB, wB] <;> (intros; omega)⟩
   rw [HR.out]
   go_enter Try.func10, Try.ntmps10
   go_wp2_with (first | ((with_reducible refine gate_dst (N := 1) rfl ?_); refine bx_ (N := 1) (cs := #[.int .i64 5, .int .i64 a, .int .i64 c, .slice A v.length cc, .int .i64 t, .int .i64 n, .int .i64 o]) (t := 31) ?_; intro g hg w1 hb HB; have XB := Aside0.mk HB; have BK := Aside0.mk hb; obtain ⟨k0, k1, k2, k3, k4, k5, k6⟩ := cells7 hb; clear hg hb HB) | (go_at_call 28; refine (is_c _ _).mono ?_; rintro e w' ⟨rfl, rfl⟩) | (go_at_call 26; refine (refspan_c _ _ _ (by omega) (by omega)).mono ?_; rintro e w' ⟨rfl, rfl⟩) | (go_at_call 27; refine (vals_c 5 a c A cc v t n o _ _ _ (Kd.C_below HV.out XB.out) (m := 1) (by decide)).mono ?_; rintro e w2 ⟨rfl, HB⟩; have XBn := Aside0.mk (below_step XB.out HB); have BKn := Aside0.mk (blk_below BK.out HB); obtain ⟨k0, k1, k2, k3, k4, k5, k6⟩ := cells7 BKn.out; clear HB XB BK; have XB := XBn; have BK := BKn))
   go_ret
   exact ⟨rfl, XB.out⟩
 ·have z0 : (n == 0) = false := by simpa using hz0
  clear hz0
  have HR : Aside0 (chkB 5 a c v t n o = false) := ⟨by simp_all [chkB, wB] <;> (intros; omega)⟩
  rw [HR.out]
  go_enter Try.func10, Try.ntmps10
  go_wp2_with (first | ((with_reducible refine gate_dst (N := 1) rfl ?_); refine bx_ (N := 1) (cs := #[.int .i64 5, .int .i64 a, .int .i64 c, .slice A v.length cc, .int .i64 t, .int .i64 n, .int .i64 o]) (t := 31) ?_; intro g hg w1 hb HB; have XB := Aside0.mk HB; have BK := Aside0.mk hb; obtain ⟨k0, k1, k2, k3, k4, k5, k6⟩ := cells7 hb; clear hg hb HB) | (go_at_call 28; refine (is_c _ _).mono ?_; rintro e w' ⟨rfl, rfl⟩) | (go_at_call 26; refine (refspan_c _ _ _ (by omega) (by omega)).mono ?_; rintro e w' ⟨rfl, rfl⟩) | (go_at_call 27; refine (vals_c 5 a c A cc v t n o _ _ _ (Kd.C_below HV.out XB.out) (m := 1) (by decide)).mono ?_; rintro e w2 ⟨rfl, HB⟩; have XBn := Aside0.mk (below_step XB.out HB); have BKn := Aside0.mk (blk_below BK.out HB); obtain ⟨k0, k1, k2, k3, k4, k5, k6⟩ := cells7 BKn.out; clear HB XB BK; have XB := XBn; have BK := BKn))
  go_ret
  exact ⟨rfl, XB.out⟩
set_option maxHeartbeats 4000000 in
set_option maxRecDepth 100000 in
theorem may_6 (a c : Int) (A : Option Addr) (cc : Nat) (v : List Int) (t n o : Int) (w : World) (hV : Kd.C (Kd.int .i64) w A v.length v) : Calls Try.prog 10 #[.agg #[.int .i64 6, .int .i64 a, .int .i64 c, .slice A v.length cc, .int .i64 t, .int .i64 n, .int .i64 o]] w fun e w' => e = .returned (.bool (chkB 6 a c v t n o)) ∧ Below w.heap.size w w' := by
 have HV := Aside0.mk hV; clear hV
 by_cases hz0 : (n == 0) = true
 ·have z0 : (n == 0) = true := hz0; clear hz0
  by_cases hz1 : (o == 0) = true
  ·have z1 : (o == 0) = true := hz1; clear hz1
   by_cases hz2 : (t == 0) = true
   ·have z2 : (t == 0) = true := hz2; clear hz2
    by_cases hz3 : (c == 0) = true
    ·have z3 : (c == 0) = true := hz3; clear hz3
     by_cases hz4 : smB 1 1 65535 v = true
     ·have z4 : smB 1 1 65535 v = true := hz4; clear hz4; have pz4 := smB_len z4
      by_cases hz5 : spB a 1 = true
      ·have z5 : spB a 1 = true := hz5; clear hz5
       have HR : Aside0 (chkB 6 a c v t n o = true) := ⟨by simp_all [chkB, wB] <;> (intros; omega)⟩
       rw [HR.out]
       go_enter Try.func10, Try.ntmps10
       go_wp2_with (first | ((with_reducible refine gate_dst (N := 1) rfl ?_); refine bx_ (N := 1) (cs := #[.int .i64 6, .int .i64 a, .int .i64 c, .slice A v.length cc, .int .i64 t, .int .i64 n, .int .i64 o]) (t := 31) ?_; intro g hg w1 hb HB; have XB := Aside0.mk HB; have BK := Aside0.mk hb; obtain ⟨k0, k1, k2, k3, k4, k5, k6⟩ := cells7 hb; clear hg hb HB) | (go_at_call 28; refine (is_c _ _).mono ?_; rintro e w' ⟨rfl, rfl⟩) | (go_at_call 26; refine (refspan_c _ _ _ (by omega) (by omega)).mono ?_; rintro e w' ⟨rfl, rfl⟩) | (go_at_call 27; refine (vals_c 6 a c A cc v t n o _ _ _ (Kd.C_below HV.out XB.out) (m := 65535) (by decide)).mono ?_; rintro e w2 ⟨rfl, HB⟩; have XBn := Aside0.mk (below_step XB.out HB); have BKn := Aside0.mk (blk_below BK.out HB); obtain ⟨k0, k1, k2, k3, k4, k5, k6⟩ := cells7 BKn.out; clear HB XB BK; have XB := XBn; have BK := BKn))
       go_ret
       exact ⟨rfl, XB.out⟩
      ·have z5 : spB a 1 = false := by simpa using hz5
       clear hz5
       have HR : Aside0 (chkB 6 a c v t n o = false) := ⟨by simp_all [chkB, wB] <;> (intros; omega)⟩
       rw [HR.out]
       go_enter Try.func10, Try.ntmps10
       go_wp2_with (first | ((with_reducible refine gate_dst (N := 1) rfl ?_); refine bx_ (N := 1) (cs := #[.int .i64 6, .int .i64 a, .int .i64 c, .slice A v.length cc, .int .i64 t, .int .i64 n, .int .i64 o]) (t := 31) ?_; intro g hg w1 hb HB; have XB := Aside0.mk HB; have BK := Aside0.mk hb; obtain ⟨k0, k1, k2, k3, k4, k5, k6⟩ := cells7 hb; clear hg hb HB) | (go_at_call 28; refine (is_c _ _).mono ?_; rintro e w' ⟨rfl, rfl⟩) | (go_at_call 26; refine (refspan_c _ _ _ (by omega) (by omega)).mono ?_; rintro e w' ⟨rfl, rfl⟩) | (go_at_call 27; refine (vals_c 6 a c A cc v t n o _ _ _ (Kd.C_below HV.out XB.out) (m := 65535) (by decide)).mono ?_; rintro e w2 ⟨rfl, HB⟩; have XBn := Aside0.mk (below_step XB.out HB); have BKn := Aside0.mk (blk_below BK.out HB); obtain ⟨k0, k1, k2, k3, k4, k5, k6⟩ := cells7 BKn.out; clear HB XB BK; have XB := XBn; have BK := BKn))
       go_ret
       exact ⟨rfl, XB.out⟩
     ·have z4 : smB 1 1 65535 v = false := by simpa using hz4
      clear hz4
      have HR : Aside0 (chkB 6 a c v t n o = false) := ⟨by simp_all [chkB, wB] <;> (intros; omega)⟩
      rw [HR.out]
      go_enter Try.func10, Try.ntmps10
      go_wp2_with (first | ((with_reducible refine gate_dst (N := 1) rfl ?_); refine bx_ (N := 1) (cs := #[.int .i64 6, .int .i64 a, .int .i64 c, .slice A v.length cc, .int .i64 t, .int .i64 n, .int .i64 o]) (t := 31) ?_; intro g hg w1 hb HB; have XB := Aside0.mk HB; have BK := Aside0.mk hb; obtain ⟨k0, k1, k2, k3, k4, k5, k6⟩ := cells7 hb; clear hg hb HB) | (go_at_call 28; refine (is_c _ _).mono ?_; rintro e w' ⟨rfl, rfl⟩) | (go_at_call 26; refine (refspan_c _ _ _ (by omega) (by omega)).mono ?_; rintro e w' ⟨rfl, rfl⟩) | (go_at_call 27; refine (vals_c 6 a c A cc v t n o _ _ _ (Kd.C_below HV.out XB.out) (m := 65535) (by decide)).mono ?_; rintro e w2 ⟨rfl, HB⟩; have XBn := Aside0.mk (below_step XB.out HB); have BKn := Aside0.mk (blk_below BK.out HB); obtain ⟨k0, k1, k2, k3, k4, k5, k6⟩ := cells7 BKn.out; clear HB XB BK; have XB := XBn; have BK := BKn))
      go_ret
      exact ⟨rfl, XB.out⟩
    ·have z3 : (c == 0) = false := by simpa using hz3
     clear hz3
     have HR : Aside0 (chkB 6 a c v t n o = false) := ⟨by simp_all [chkB, wB] <;> (intros; omega)⟩
     rw [HR.out]
     go_enter Try.func10, Try.ntmps10
     go_wp2_with (first | ((with_reducible refine gate_dst (N := 1) rfl ?_); refine bx_ (N := 1) (cs := #[.int .i64 6, .int .i64 a, .int .i64 c, .slice A v.length cc, .int .i64 t, .int .i64 n, .int .i64 o]) (t := 31) ?_; intro g hg w1 hb HB; have XB := Aside0.mk HB; have BK := Aside0.mk hb; obtain ⟨k0, k1, k2, k3, k4, k5, k6⟩ := cells7 hb; clear hg hb HB) | (go_at_call 28; refine (is_c _ _).mono ?_; rintro e w' ⟨rfl, rfl⟩) | (go_at_call 26; refine (refspan_c _ _ _ (by omega) (by omega)).mono ?_; rintro e w' ⟨rfl, rfl⟩) | (go_at_call 27; refine (vals_c 6 a c A cc v t n o _ _ _ (Kd.C_below HV.out XB.out) (m := 65535) (by decide)).mono ?_; rintro e w2 ⟨rfl, HB⟩; have XBn := Aside0.mk (below_step XB.out HB); have BKn := Aside0.mk (blk_below BK.out HB); obtain ⟨k0, k1, k2, k3, k4, k5, k6⟩ := cells7 BKn.out; clear HB XB BK; have XB := XBn; have BK := BKn))
     go_ret
     exact ⟨rfl, XB.out⟩
   ·have z2 : (t == 0) = false := by simpa using hz2
    clear hz2
    have HR : Aside0 (chkB 6 a c v t n o = false) := ⟨by simp_all [chkB, wB] <;> (intros; omega)⟩
    rw [HR.out]
    go_enter Try.func10, Try.ntmps10
    go_wp2_with (first | ((with_reducible refine gate_dst (N := 1) rfl ?_); refine bx_ (N := 1) (cs := #[.int .i64 6, .int .i64 a, .int .i64 c, .slice A v.length cc, .int .i64 t, .int .i64 n, .int .i64 o]) (t := 31) ?_; intro g hg w1 hb HB; have XB := Aside0.mk HB; have BK := Aside0.mk hb; obtain ⟨k0, k1, k2, k3, k4, k5, k6⟩ := cells7 hb; clear hg hb HB) | (go_at_call 28; refine (is_c _ _).mono ?_; rintro e w' ⟨rfl, rfl⟩) | (go_at_call 26; refine (refspan_c _ _ _ (by omega) (by omega)).mono ?_; rintro e w' ⟨rfl, rfl⟩) | (go_at_call 27; refine (vals_c 6 a c A cc v t n o _ _ _ (Kd.C_below HV.out XB.out) (m := 65535) (by decide)).mono ?_; rintro e w2 ⟨rfl, HB⟩; have XBn := Aside0.mk (below_step XB.out HB); have BKn := Aside0.mk (blk_below BK.out HB); obtain ⟨k0, k1, k2, k3, k4, k5, k6⟩ := cells7 BKn.out; clear HB XB BK; have XB := XBn; have BK := BKn))
    go_ret
    exact ⟨rfl, XB.out⟩
  ·have z1 : (o == 0) = false := by simpa using hz1
   clear hz1
   have HR : Aside0 (chkB 6 a c v t n o = false) := ⟨by simp_all [chkB, wB] <;> (intros; omega)⟩
   rw [HR.out]
   go_enter Try.func10, Try.ntmps10
   go_wp2_with (first | ((with_reducible refine gate_dst (N := 1) rfl ?_); refine bx_ (N := 1) (cs := #[.int .i64 6, .int .i64 a, .int .i64 c, .slice A v.length cc, .int .i64 t, .int .i64 n, .int .i64 o]) (t := 31) ?_; intro g hg w1 hb HB; have XB := Aside0.mk HB; have BK := Aside0.mk hb; obtain ⟨k0, k1, k2, k3, k4, k5, k6⟩ := cells7 hb; clear hg hb HB) | (go_at_call 28; refine (is_c _ _).mono ?_; rintro e w' ⟨rfl, rfl⟩) | (go_at_call 26; refine (refspan_c _ _ _ (by omega) (by omega)).mono ?_; rintro e w' ⟨rfl, rfl⟩) | (go_at_call 27; refine (vals_c 6 a c A cc v t n o _ _ _ (Kd.C_below HV.out XB.out) (m := 65535) (by decide)).mono ?_; rintro e w2 ⟨rfl, HB⟩; have XBn := Aside0.mk (below_step XB.out HB); have BKn := Aside0.mk (blk_below BK.out HB); obtain ⟨k0, k1, k2, k3, k4, k5, k6⟩ := cells7 BKn.out; clear HB XB BK; have XB := XBn; have BK := BKn))
   go_ret
   exact ⟨rfl, XB.out⟩
 ·have z0 : (n == 0) = false := by simpa using hz0
  clear hz0
  have HR : Aside0 (chkB 6 a c v t n o = false) := ⟨by simp_all [chkB, wB] <;> (intros; omega)⟩
  rw [HR.out]
  go_enter Try.func10, Try.ntmps10
  go_wp2_with (first | ((with_reducible refine gate_dst (N := 1) rfl ?_); refine bx_ (N := 1) (cs := #[.int .i64 6, .int .i64 a, .int .i64 c, .slice A v.length cc, .int .i64 t, .int .i64 n, .int .i64 o]) (t := 31) ?_; intro g hg w1 hb HB; have XB := Aside0.mk HB; have BK := Aside0.mk hb; obtain ⟨k0, k1, k2, k3, k4, k5, k6⟩ := cells7 hb; clear hg hb HB) | (go_at_call 28; refine (is_c _ _).mono ?_; rintro e w' ⟨rfl, rfl⟩) | (go_at_call 26; refine (refspan_c _ _ _ (by omega) (by omega)).mono ?_; rintro e w' ⟨rfl, rfl⟩) | (go_at_call 27; refine (vals_c 6 a c A cc v t n o _ _ _ (Kd.C_below HV.out XB.out) (m := 65535) (by decide)).mono ?_; rintro e w2 ⟨rfl, HB⟩; have XBn := Aside0.mk (below_step XB.out HB); have BKn := Aside0.mk (blk_below BK.out HB); obtain ⟨k0, k1, k2, k3, k4, k5, k6⟩ := cells7 BKn.out; clear HB XB BK; have XB := XBn; have BK := BKn))
  go_ret
  exact ⟨rfl, XB.out⟩
end Go.Proofs.Ytlalpooiegganaa.Chk
end

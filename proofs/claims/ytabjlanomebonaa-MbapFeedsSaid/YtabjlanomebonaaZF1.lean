/- The words, contracts and walks that this claim leans on, put together by a program of this session (part 1). -/
import Derived.Test.YtabjlanomebonaaZF0
import Derived.Test.YtabjlanomebonaaProg
import Derived.Laws.StructEq
import Derived.Laws.CopyOwn
import Derived.Lib.AppendZerosOnto
import Derived.MapKept
section
namespace Go.Proofs.Ytabjlanomebonaa.PZ
open Go.RowKit Go.Proofs.YtabjlanomebonaaW.PrintWords Go.Proofs.YtabjlanomebonaaW.PrintLast Go.Proofs.YtabjlanomebonaaW.PrintMore
attribute [local go_sem] max2_int min2_int max_two min_two max_three min_three max_four min_four   
set_option linter.unusedVariables false
set_option linter.unusedSimpArgs false
open Go.RowKit
def errW : Option Int → Value
  | none => .nilIface
  | some c => .iface 0 (.int .i64 c)
theorem errW_none : errW none = .nilIface := rfl
theorem errW_some (c : Int) : errW (some c) = .iface 0 (.int .i64 c) := rfl
theorem info5 : (Try.prog.info? 5).map (fun i => (i.zero, i.size, i.bytes)) = some (some (.int .u8 0), 1, 1) := by kernel_rfl
theorem info37 : (Try.prog.info? 37).map (fun i => (i.zero, i.size, i.bytes)) = some (some (.agg #[(.int .i64 0), (.int .i64 0), (.slice none 0 0)]), 3, 40) := by kernel_rfl
structure S37 where
  f0 : Int
  f1 : Int
  f2 : (List Int)
def z37 : S37 := ⟨(0 : Int), (0 : Int), ([] : List Int)⟩
def k37 : Kd S37 := Kd.iso (Kd.pair (Kd.int .i64) (Kd.pair (Kd.int .i64) (Kd.slice 5 (Kd.int .u8)))) (fun x : S37 => (x.f0, x.f1, x.f2))
theorem k37_open {w : World} {x : S37} {cs : List Value} (h : k37.K w x cs) : ∃ A2 c2, cs = [.int .i64 x.f0, .int .i64 x.f1, .slice A2 x.f2.length c2] ∧ x.f2.length ≤ c2 ∧ (Kd.int .u8).C w A2 x.f2.length x.f2 := by
  obtain ⟨_, _, rfl, rfl, ⟨_, _, rfl, rfl, ⟨A2, c2, rfl, l2, g2⟩⟩⟩ := h
  exact ⟨A2, c2, rfl, l2, g2⟩
theorem k37_mk (w : World) (x : S37) {A2 : Option Addr} {c2 : Nat} (l2 : x.f2.length ≤ c2) (g2 : (Kd.int .u8).C w A2 x.f2.length x.f2) : k37.K w x [.int .i64 x.f0, .int .i64 x.f1, .slice A2 x.f2.length c2] := ⟨[.int .i64 x.f0], [.int .i64 x.f1, .slice A2 x.f2.length c2], rfl, rfl, ⟨[.int .i64 x.f1], [.slice A2 x.f2.length c2], rfl, rfl, ⟨A2, c2, rfl, l2, g2⟩⟩⟩
def rd_T37 (xs : List S37) (i : Int) : S37 := xs.getD i.toNat z37
theorem at_T37 {w : World} {A : Option Addr} {n : Nat} {xs : List S37} (h : Kd.C k37 w A n xs) (i : Int) (h0 : 0 ≤ i) (h1 : i < n) : ∃ ad A2 c2, A = some ad ∧ w.cell? (ad.add (i.toNat * 3)) = some (.int .i64 (rd_T37 xs i).f0) ∧ w.cell? ⟨(ad.add (i.toNat * 3)).block, (ad.add (i.toNat * 3)).off + 1, none⟩ = some (.int .i64 (rd_T37 xs i).f1) ∧ w.cell? ⟨(ad.add (i.toNat * 3)).block, (ad.add (i.toNat * 3)).off + 2, none⟩ = some (.slice A2 (rd_T37 xs i).f2.length c2) ∧ (rd_T37 xs i).f2.length ≤ c2 ∧ (Kd.int .u8).C w A2 (rd_T37 xs i).f2.length (rd_T37 xs i).f2 := by
  obtain ⟨ad, c, e, _, hK, hc0⟩ := Kd.C_get h z37 i h0 h1
  have hc : ∀ j u, c[j]? = some u → w.cell? (ad.add (i.toNat * 3 + j)) = some u := hc0
  obtain ⟨A2, c2, rfl, l2, g2⟩ := k37_open hK
  exact ⟨ad, A2, c2, e, hc 0 _ rfl, by rw [← add_field _ _ 1 (by omega)]; exact hc 1 _ rfl, by rw [← add_field _ _ 2 (by omega)]; exact hc 2 _ rfl, l2, g2⟩
end Go.Proofs.Ytabjlanomebonaa.PZ
end

section
namespace Go.Proofs.Ytabjlanomebonaa.Ext
open Go.RowKit Go.Proofs.YtabjlanomebonaaW.PrintWords Go.Proofs.YtabjlanomebonaaW.PrintLast Go.Proofs.YtabjlanomebonaaW.PrintMore
set_option linter.unusedVariables false
set_option linter.unusedSimpArgs false
theorem info5 : (Try.prog.info? 5).map (fun i => (i.zero, i.size, i.bytes)) = some (some (.int .u8 0), 1, 1) := by kernel_rfl
theorem own_copied {W : World} {base g n cap : Nat} {e : TypeId} {k : IntKind} {xs : List Int} {cur : List Value} (hg : W.heap[g]? = some (.cells cur.toArray e (0, 0))) (hb : base ≤ g) (hl : xs.length = n) (hc : cur.length = cap) (hn : n ≤ cap) (hm : cap ≤ 9223372036854775807)
    (ht : cur.take n = nums k xs) : W.ownsRow base e 1 (.slice (some ⟨g, 0, none⟩) n cap) n (nums k xs) :=
  ⟨by simp [nums, hl], .inr ⟨g, cap, cur.toArray, rfl, hb, hg, hn, by simpa [maxLen] using hm, by simpa using hc, by simpa using ht⟩⟩
theorem wp_copy_row {P : Program} {w : World} {ops : Array Oper} {rest : List Oper} {o : Oper} {a : Act} {Q : Exit → Act → World → Prop} (hgd : o.guard = none) (d s : Operand) (dT sT : TypeId)
    (ho : o.op = .call { callee := .builtin .copy, args := #[d, s], argTypes := #[dT, sT] }) (e : TypeId) (hu : P.underlying dT = some (.slice e)) (hsz : (P.info? e).map (·.size) = some 1) (k : IntKind)
    (g : Nat) (A : Option Addr) (dCap sCap : Nat) (xs : List Int) (cur : List Value) (hd : a.eval d = .slice (some ⟨g, 0, none⟩) xs.length dCap) (hs : a.eval s = .slice A xs.length sCap)
    (hg : w.heap[g]? = some (.cells cur.toArray e (0, 0))) (hr : ReadsInt w k A xs.length xs) (hfit : xs.length ≤ cur.length)
    (w0 : World) (hb : Below w0.heap.size w0 w) (hBg : w0.heap.size ≤ g)
    (h : ∀ w', Aside0 (w'.heap[g]? = some (.cells (nums k xs ++ cur.drop xs.length).toArray e (0, 0))) → Aside0 (Below w0.heap.size w0 w') → wpList P ops Q rest (a.put o.dst (goInt xs.length)) w') :
    wpList P ops Q (o :: rest) a w := by
  refine wpList_copy_splice hgd d s dT sT ho e hu hsz (some ⟨g, 0, none⟩) A xs.length dCap xs.length sCap hd hs g 0 cur e hg (nums k xs) (by simp [nums]) (fun hp => ⟨rfl, ?_⟩) (by simpa [nums] using hfit)
    (by intro v hv; simp [nums] at hv; obtain ⟨x, _, rfl⟩ := hv; rfl) w0.heap.size w0 hb hBg (fun w' h1 h2 => ?_)
  · have hp' : 0 < xs.length := by simpa [nums] using hp
    obtain ⟨ad, rfl, _⟩ := ReadsInt.at_ hr 0 (by omega) (by omega)
    refine ⟨ad, rfl, fun j v hj => ?_⟩
    have hlt : j < xs.length := by have := (List.getElem?_eq_some_iff.1 hj).1; simpa [nums] using this
    obtain ⟨ad', e', hc⟩ := ReadsInt.at_ hr (j : Int) (by omega) (by omega)
    cases e'
    rw [Int.toNat_natCast] at hc
    rw [hc]
    simp [nums, List.getElem?_map, List.getElem?_eq_getElem hlt] at hj
    rw [← hj]
    simp [rd, List.getElem?_eq_getElem hlt]
  · have h1' : w'.heap[g]? = some (.cells (splice cur 0 (nums k xs)).toArray e (0, 0)) := h1
    have e1 : splice cur 0 (nums k xs) = nums k xs ++ cur.drop xs.length := by simp [splice, nums]
    rw [e1] at h1'
    have hl : (nums k xs).length = xs.length := by simp [nums]
    rw [hl]
    exact h w' ⟨h1'⟩ ⟨h2⟩
def wire_behind.f (l0 : List Int) (a1 : Int) : Option (List Int) := if 0 ≤ a1 ∧ (l0.length : Int) + a1 ≤ 140737488355328 then some l0 else none
set_option maxHeartbeats 8000000 in
set_option maxRecDepth 1000000 in
theorem wire_behind.calls (A0 : Option Addr) (c0 : Nat) (l0 : List Int) (a1 : Int) (r : List Int) (w : World) (hr0 : Kd.C (Kd.int .u8) w A0 l0.length l0) (hc0 : l0.length ≤ c0) (h : wire_behind.f l0 a1 = some r) :
    Calls Try.prog 45 #[.slice A0 l0.length c0, .int .i64 a1] w fun e w' => ∃ v0_ : Value, e = .returned (v0_) ∧ Kd.R (Kd.int .u8) 5 w' w.heap.size (fun _ => True) v0_ r ∧ Below w.heap.size w w' := by
  unfold wire_behind.f at h
  by_cases hc : 0 ≤ a1 ∧ (l0.length : Int) + a1 ≤ 140737488355328
  · rw [if_pos hc] at h
    obtain ⟨h0, h1⟩ := hc
    obtain rfl := Option.some.inj h
    obtain ⟨m, rfl⟩ := Int.eq_ofNat_of_zero_le h0
    obtain ⟨i0, hi, hz0, hz1, hz2⟩ := info_parts info5
    have hmk := fun W : World => run_make (P := Try.prog) W 22 5 i0 (.int .u8 0) Try.underlying22 hi hz0 .i64 .i64 (l0.length : Int) ((l0.length : Int) + (m : Int)) (by omega) (by omega) (by rw [hz2]; omega) (by omega)
    simp only [hz1, Nat.mul_one, Int.toNat_natCast] at hmk
    rw [show ((l0.length : Int) + (m : Int)).toNat = l0.length + m from by omega] at hmk
    go_enter Try.func45, Try.ntmps45
    have hR : Aside0 (ReadsInt w .u8 A0 l0.length l0) := ⟨Kd.reads_of_C hr0⟩
    clear hr0
    go_wp2_with ((with_reducible refine gate_builtin (b := .copy) (xs := #[.tmp 13, .tmp 14]) rfl ?_); (refine wp_copy_row rfl (.tmp 13) (.tmp 14) 22 22 rfl 5 Try.underlying22 (by kernel_rfl) .u8 w.heap.size A0 _ c0 l0 (madeCells #[Value.int IntKind.u8 0] (l0.length + m)).toList rfl rfl ?c1 ?c2 ?c3 w ?c4 (Nat.le_refl _) ?_; (case c1 => exact heap_alloc_new w _); (case c2 => exact hR.out.below (below_alloc (Below.refl _ _) _)); (case c3 => simp [size_madeCells]); (case c4 => exact below_alloc (Below.refl _ _) _); intro w2 HG2 HB2))
    go_ret
    refine ⟨_, rfl, Kd.R_of_own ?_ (fun _ _ => trivial), HB2.out⟩
    refine own_copied HG2.out (Nat.le_refl _) rfl ?_ (by omega) (by omega) (by simp [nums])
    simp [nums, size_madeCells]
  · rw [if_neg hc] at h
    cases h
end Go.Proofs.Ytabjlanomebonaa.Ext
end

section
namespace Go.Proofs.Ytabjlanomebonaa.Core
open Go.RowKit Go.Proofs.YtabjlanomebonaaW.PrintWords Go.Proofs.YtabjlanomebonaaW.PrintLast Go.Proofs.YtabjlanomebonaaW.PrintMore
set_option linter.unusedVariables false
set_option linter.unusedSimpArgs false
structure Ext (M : Nat → Prop) (w w' : World) : Prop where
  os : w'.os = w.os
  tape : w'.tape = w.tape
  output : w'.output = w.output
  size : w.heap.size ≤ w'.heap.size
  block : ∀ k, k < w.heap.size → ¬ M k → w'.heap[k]? = w.heap[k]?
structure Ever (M : Nat → Prop) (w : World) (P : World → Prop) : Prop where
  at_ : ∀ w', Ext M w w' → P w'
section
variable {M M' : Nat → Prop} {w w1 w2 W : World} {P Q : World → Prop}
theorem Ext.refl (M : Nat → Prop) (w : World) : Ext M w w := ⟨rfl, rfl, rfl, Nat.le_refl _, fun _ _ _ => rfl⟩
theorem Ext.trans (h : Ext M w w1) (k : Ext M w1 w2) : Ext M w w2 :=
  ⟨k.os.trans h.os, k.tape.trans h.tape, k.output.trans h.output, Nat.le_trans h.size k.size, fun i hi hm => (k.block i (Nat.lt_of_lt_of_le hi h.size) hm).trans (h.block i hi hm)⟩
theorem Ext.mono (h : Ext M w w1) (hm : ∀ k, k < w.heap.size → M k → M' k) : Ext M' w w1 := ⟨h.os, h.tape, h.output, h.size, fun i hi hn => h.block i hi (fun a => hn (hm i hi a))⟩
theorem Ext.of_below (h : Below w.heap.size w w1) : Ext M w w1 := ⟨h.os, h.tape, h.output, h.size, fun i hi _ => h.block i hi⟩
theorem Ext.then_below (h : Ext M w w1) (k : Below w1.heap.size w1 w2) : Ext M w w2 := h.trans (.of_below k)
theorem Ext.alloc (h : Ext M w W) (o : Obj) : Ext M w (W.alloc o) := h.then_below (below_alloc (Below.refl _ _) o)
theorem Ext.drewN (h : Ext M w W) (n : Nat) : Ext M w (W.drewN n) := h.then_below (pw_below_drewN (Below.refl _ _) n)
theorem Ext.drew (h : Ext M w W) : Ext M w W.drew := h.then_below (below_drew1 (Below.refl _ _))
theorem Ext.set (h : Ext M w W) {g j : Nat} (hg : M g) (v : Value) : Ext M w (W.setCell ⟨g, j, none⟩ v) :=
  h.trans ⟨rfl, rfl, rfl, by simp [World.setCell], fun k _ hk => Below.heap_setCell _ _ _ _ (fun e => hk (by simpa using e ▸ hg))⟩
theorem Ext.new (h : Ext M w W) {g j : Nat} (hg : w.heap.size ≤ g) (v : Value) : Ext M w (W.setCell ⟨g, j, none⟩ v) :=
  ⟨h.os, h.tape, h.output, by have := h.size; simpa [World.setCell] using this, fun k hk hm => (Below.heap_setCell _ _ _ _ (by show k ≠ g; omega)).trans (h.block k hk hm)⟩
theorem Ext.grown (h : Ext M w W) {row : Option Nat} (hg : W.grownBy w1 row) (hr : ∀ k, row = some k → M k ∨ w.heap.size ≤ k) : Ext M w w1 :=
  ⟨hg.os.trans h.os, hg.tape.trans h.tape, hg.output.trans h.output, Nat.le_trans h.size hg.size, fun k hk hm => (hg.block k (Nat.lt_of_lt_of_le hk h.size) (fun e => by rcases hr k e.symm with a | a; exact hm a; omega)).trans (h.block k hk hm)⟩
theorem Ext.below (h : Ext M w W) (hM : ∀ k, M k → w.heap.size ≤ k) : Below w.heap.size w W := ⟨h.os, h.tape, h.output, h.size, fun k hk => h.block k hk (fun a => by have := hM k a; omega)⟩
theorem Ext.grow (h : Ext M w W) (k : Ext M' W w2) (hM : ∀ k, M' k → M k ∨ w.heap.size ≤ k) : Ext M w w2 :=
  ⟨k.os.trans h.os, k.tape.trans h.tape, k.output.trans h.output, Nat.le_trans h.size k.size, fun i hi hm => (k.block i (Nat.lt_of_lt_of_le hi h.size) (fun a => by rcases hM i a with b | b; exact hm b; omega)).trans (h.block i hi hm)⟩
theorem Ext.lt_ {k : Nat} (h : Ext M w W) (hk : k < w.heap.size) : k < W.heap.size := Nat.lt_of_lt_of_le hk h.size
theorem Ext.setg {g j : Nat} (h : Ext (fun k => k = g) w W) (v : Value) : Ext (fun k => k = g) w (W.setCell ⟨g, j, none⟩ v) := Ext.set h (M := fun k => k = g) rfl v
theorem Ext.toM {g : Nat} (hM : M g) (h : Ext (fun k => k = g) w W) : Ext M w W := h.mono (fun k _ e => by have e' : k = g := e; subst e'; exact hM)
theorem Ever.now (h : Ever M w P) : P w := h.at_ w (Ext.refl _ _)
theorem Ever.step (h : Ever M w P) (k : Ext M w w1) : Ever M w1 P := ⟨fun w2 h2 => h.at_ w2 (k.trans h2)⟩
theorem Ever.grow (h : Ever M w P) (k : Ext M w w1) (hM : ∀ k, M' k → M k ∨ w.heap.size ≤ k) : Ever M' w1 P := ⟨fun w2 h2 => h.at_ w2 (k.grow h2 hM)⟩
theorem Ever.imp (h : Ever M w P) (k : ∀ w, P w → Q w) : Ever M w Q := ⟨fun w1 h1 => k _ (h.at_ w1 h1)⟩
theorem Ever.old (h : P w) (hb : ∀ w1, Below w.heap.size w w1 → P w1) (hM : ∀ k, M k → w.heap.size ≤ k) : Ever M w P := ⟨fun w1 h1 => hb w1 (h1.below hM)⟩
theorem Ever.C {α : Type} {d : Kd α} {A : Option Addr} {n : Nat} {xs : List α} (h : d.C w A n xs) (hM : ∀ k, M k → w.heap.size ≤ k) : Ever M w (fun W => d.C W A n xs) := .old h (fun _ hb => Kd.C_below h hb) hM
theorem Ever.R {α : Type} {d : Kd α} {e base : Nat} {ok : Nat → Prop} {A : Option Addr} {n c : Nat} {xs : List α} (h : d.R e w base ok (.slice A n c) xs) (hM : ∀ k, M k → k < base) : Ever M w (fun W => d.C W A xs.length xs) := by
  refine ⟨fun w1 h1 => ?_⟩
  have h2 : d.R e w1 base (fun k => ok k ∧ base ≤ k ∧ k < w.heap.size ∧ ∃ q, q ∈ e :: d.E ∧ ∃ cells, w.heap[k]? = some (.cells cells q (0, 0))) (.slice A n c) xs :=
    Kd.R_move (Kd.R_bound h) (fun k hk => h1.block k hk.2.2.1 (fun a => by have := hM k a; have := hk.2.1; omega))
  exact (Kd.R_reads' h2).2.2
theorem Ever.made {α : Type} {d : Kd α} {e base : Nat} {ok : Nat → Prop} {v : Value} {xs : List α} (h : d.R e w base ok v xs) (hM : ∀ k, M k → k < base) : ∃ A c, v = .slice A xs.length c ∧ xs.length ≤ c ∧ Ever M w (fun W => d.C W A xs.length xs) := by
  obtain ⟨A, c, rfl, hc, _⟩ := Kd.R_reads h
  exact ⟨A, c, rfl, hc, .R h hM⟩
theorem Ever.blk {g : Nat} {o : Obj} (h : w.heap[g]? = some o) (hM : ¬ M g) : Ever M w (fun W => W.heap[g]? = some o) := ⟨fun w1 h1 => (h1.block g (blk_lt h) hM).trans h⟩
theorem Ever.nil {α : Type} (d : Kd α) : Ever M w (fun W => d.C W none ([] : List α).length []) := ⟨fun w1 _ => Kd.C_nil d w1⟩
end
section
variable {α : Type} {enc : α → Value} {h1 : ∀ x, (enc x).oneCell' = true} {M : Nat → Prop} {w : World} {A : Option Addr}
theorem Ever.take {d : Kd α} {xs : List α} (h : Ever M w (fun W => d.C W A xs.length xs)) {m : Nat} (hm : m ≤ xs.length) : Ever M w (fun W => d.C W A (xs.take m).length (xs.take m)) := h.imp (fun _ k => Kd.C_take k hm)
end
def Mv (M : Nat → Prop) (v : Value) (k : Nat) : Prop := M k ∨ some k = v.ownBlock
def OwnE {α : Type} (d : Kd α) (M : Nat → Prop) (e : TypeId) (base : Nat) (W : World) (v : Value) (xs : List α) : Prop :=
  ∃ inner, W.ownsRow base e d.sz v xs.length inner ∧ Reps (fun x cs => Ever (Mv M v) W (fun W => d.K W x cs)) d.sz xs inner
section
variable {α : Type} {d : Kd α} {M M' : Nat → Prop} {e : TypeId} {base : Nat} {W w1 : World} {v v1 : Value} {xs : List α} {P : World → Prop}
theorem OwnE.nil (d : Kd α) (M : Nat → Prop) (e : TypeId) (base : Nat) (W : World) : OwnE d M e base W (.slice none 0 0) [] := ⟨[], own_nil W base e d.sz, Reps.none _ _⟩
theorem OwnE.slice (h : OwnE d M e base W v xs) : ∃ A c, v = .slice A xs.length c := by obtain ⟨i, h, _⟩ := h; exact own_slice h
theorem OwnE.step (h : OwnE d M e base W v xs) (k : Ext (Mv M v) W w1) (hv : ∀ k, v.ownBlock = some k → w1.heap[k]? = W.heap[k]?) : OwnE d M e base w1 v xs := by
  obtain ⟨i, h1, h2⟩ := h
  exact ⟨i, own_move h1 hv, h2.imp_ (fun _ _ h => h.step k)⟩
theorem OwnE.below (h : OwnE d M e base W v xs) (k : Below W.heap.size W w1) : OwnE d M e base w1 v xs := by
  obtain ⟨i, h1, h2⟩ := h
  exact ⟨i, pw_own_below h1 k, h2.imp_ (fun _ _ h => h.step (.of_below k))⟩
theorem OwnE.ext (h : OwnE d M e base W v xs) (k : Ext M W w1) (hM : ∀ k, v.ownBlock = some k → ¬ M k) : OwnE d M e base w1 v xs := by
  have h0 := h
  obtain ⟨i, h1, h2⟩ := h0
  exact h.step (k.mono (fun _ _ a => .inl a)) (fun b hb => k.block b (own_lt h1 b hb) (hM b hb))
theorem OwnE.base_le (h : OwnE d M e base W v xs) (k : Nat) (hk : v.ownBlock = some k) : base ≤ k := by obtain ⟨i, h1, _⟩ := h; exact own_base h1 k hk
theorem OwnE.lt (h : OwnE d M e base W v xs) (k : Nat) (hk : v.ownBlock = some k) : k < W.heap.size := by obtain ⟨i, h1, _⟩ := h; exact own_lt h1 k hk
theorem OwnE.view (h : OwnE d M e base W v xs) (hM : ∀ k, v.ownBlock = some k → ¬ M k) : ∃ A c, v = .slice A xs.length c ∧ xs.length ≤ c ∧ Ever M W (fun W => d.C W A xs.length xs) := by
  obtain ⟨i, h1, h2⟩ := h
  obtain ⟨A, c, rfl⟩ := own_slice h1
  refine ⟨A, c, rfl, own_cap h1, ⟨fun w1 k => ?_⟩⟩
  have h3 : w1.ownsRow base e d.sz (.slice A xs.length c) xs.length i := own_move h1 (fun b hb => k.block b (own_lt h1 b hb) (hM b hb))
  have h4 : Reps (d.K w1) d.sz xs i := h2.imp_ (fun _ _ h => h.at_ _ (k.mono (fun _ _ a => .inl a)))
  obtain ⟨A', c', e', h5⟩ := own_reads_row h3 h4 rfl
  cases e'
  exact h5
theorem Mv_grow {W w1 : World} (hat : v1.ownBlock = v.ownBlock ∨ ∃ b, v1.ownBlock = some b ∧ W.heap.size ≤ b) (k : Nat) (h : Mv M v1 k) : Mv M v k ∨ W.heap.size ≤ k := by
  rcases h with h | h
  · exact .inl (.inl h)
  · rcases hat with a | ⟨b, a, hb⟩
    · exact .inl (.inr (h.trans a))
    · rw [a] at h; injection h with h; exact .inr (by omega)
theorem Ext.of_grown (h : W.grownBy w1 v.ownBlock) : Ext (Mv M v) W w1 := ⟨h.os, h.tape, h.output, h.size, fun k hk hm => h.block k hk (fun e => hm (.inr e))⟩
end
section
variable {P : Program} {ops : Array Oper} {rest : List Oper} {o : Oper} {a : Act} {Q : Exit → Act → World → Prop} {α : Type}
theorem ev_append (d : Kd α) {M : Nat → Prop} {w0 W : World} (base : Nat) (hgd : o.guard = none) (s x : Operand) (t e : TypeId) (z : Value) (bytes : Nat)
    (ho : o.op = .call { callee := .builtin .append, args := #[s, x], argTypes := #[t, t] })
    (ht : P.underlying t = some (.slice e)) (hinfo : (P.info? e).map (fun i => (i.zero, i.size, i.bytes)) = some (some z, d.sz, bytes)) (hz : z.cells.size = d.sz) (hs0 : 0 < d.sz) (hb0 : 0 < bytes)
    (v : Value) (xs : List α) (p : α) (ys : List Value) (hs : a.eval s = v) (hx : a.eval x = .slice (some ⟨W.heap.size, 0, none⟩) 1 1)
    (HO : OwnE d M e base W v xs) (hp : Ever (Mv M v) W (fun W => d.K W p ys)) (HB : Below base w0 W) (hbase : base ≤ W.heap.size) (hl : (xs.length + 1) * bytes ≤ 140737488355328)
    (h : ∀ v1 w1, OwnE d M e base w1 v1 (xs ++ [p]) → Below base w0 w1 → W.grownBy w1 v.ownBlock → (v1.ownBlock = v.ownBlock ∨ ∃ b, v1.ownBlock = some b ∧ W.heap.size ≤ b) → wpList P ops Q rest (a.put o.dst v1) w1) :
    wpList P ops Q (o :: rest) a (W.alloc (.cells ys.toArray e)) := by
  obtain ⟨inner, hown, hr⟩ := HO
  refine print_append_cells base hgd s x t e z d.sz bytes ho ht hinfo hz hs0 hb0 v xs.length inner ys hs hx (d.K_len hp.now) (d.K_one hp.now) hown HB hbase hl (fun v1 w1 h1 h2 h3 h4 => ?_)
  have hE : Ext (Mv M v) W w1 := Ext.of_grown h3
  refine h v1 w1 ⟨inner ++ ys, by rw [List.length_append, List.length_singleton]; exact h1, ?_⟩ h2 h3 h4
  exact (hr.imp_ (fun _ _ k => k.grow hE (Mv_grow (w1 := w1) h4))).snoc (hp.grow hE (Mv_grow (w1 := w1) h4)) (d.K_len hp.now)
theorem ev_append_rows (d : Kd α) {M : Nat → Prop} {w0 W : World} (base : Nat) (hgd : o.guard = none) (s x : Operand) (t e : TypeId) (z : Value) (bytes : Nat)
    (ho : o.op = .call { callee := .builtin .append, args := #[s, x], argTypes := #[t, t] })
    (ht : P.underlying t = some (.slice e)) (hinfo : (P.info? e).map (fun i => (i.zero, i.size, i.bytes)) = some (some z, d.sz, bytes)) (hz : z.cells.size = d.sz) (hs0 : 0 < d.sz) (hb0 : 0 < bytes)
    (v : Value) (xs ys : List α) (A : Option Addr) (m c : Nat) (hs : a.eval s = v) (hx : a.eval x = .slice A m c)
    (HO : OwnE d M e base W v xs) (HR : ReadsRow (fun x cs => cs.length = d.sz ∧ (∀ u ∈ cs, u.oneCell' = true) ∧ Ever (Mv M v) W (fun W => d.K W x cs)) d.sz W A m ys)
    (HB : Below base w0 W) (hbase : base ≤ W.heap.size) (hl : (xs.length + m) * bytes ≤ 140737488355328)
    (h : ∀ v1 w1, OwnE d M e base w1 v1 (xs ++ ys) → Below base w0 w1 → W.grownBy w1 v.ownBlock → (v1.ownBlock = v.ownBlock ∨ ∃ b, v1.ownBlock = some b ∧ W.heap.size ≤ b) → wpList P ops Q rest (a.put o.dst v1) w1) :
    wpList P ops Q (o :: rest) a W := by
  obtain ⟨i0, hi, hzz⟩ := Option.map_eq_some_iff.1 hinfo
  simp only [Prod.mk.injEq] at hzz
  obtain ⟨hz0, hz1, hz2⟩ := hzz
  have hm : ys.length = m := HR.1
  have hlen : xs.length + m ≤ 140737488355328 := Nat.le_trans (Nat.le_mul_of_pos_right _ hb0) hl
  obtain ⟨inner, hown, hr⟩ := HO
  rcases A with _ | ad
  · have h0 : m = 0 := by
      rcases Nat.eq_zero_or_pos m with h0 | h0
      · exact h0
      · obtain ⟨ad, h, _⟩ := HR.2.2 h0
        cases h
    subst h0
    obtain rfl : ys = [] := List.eq_nil_of_length_eq_zero hm
    have hrun : (Builtin.append_ #[t, t] o.type #[v, .slice none 0 c]).run P W = .ok v W := by
      rcases hown.2 with ⟨rfl, hn⟩ | ⟨g, cap, cur, rfl, _, _, hnc, _⟩
      · simp [Builtin.append_, run_underlying ht, sizeOf, typeInfo, hi, Builtin.lenOf, Builtin.firstCells]
      · simp [Builtin.append_, run_underlying ht, sizeOf, typeInfo, hi, Builtin.lenOf, Builtin.firstCells, hnc, storeCells]
    refine wpList_plain hgd fun K hK => ?_
    unfold Oper.wp execOp
    simp only [ho, resolve, invoke, builtin, Sem.run_bind, Sem.run_pure, Result.andThen_ok, List.map_toArray, List.map_cons, List.map_nil, hs, hx, hrun]
    exact hK _ _ (h v W (by rw [List.append_nil]; exact ⟨inner, hown, hr⟩) HB (World.grownBy.refl W _) (.inl rfl))
  · obtain ⟨news, hnr, hnc⟩ := ReadsRow.inner_ HR
    have hone : ∀ u ∈ news, u.oneCell' = true := by
      intro u hu
      obtain ⟨q, hq, rfl⟩ := List.mem_iff_getElem.1 hu
      have hql : q / d.sz < ys.length := by
        rw [Nat.div_lt_iff_lt_mul hs0]
        rw [← hnr.1]
        exact hq
      have hc := hnr.2 (q / d.sz) _ (List.getElem?_eq_getElem hql)
      refine hc.2.1 _ ?_
      rw [List.mem_iff_getElem?]
      refine ⟨q % d.sz, ?_⟩
      rw [List.getElem?_take, if_pos (Nat.mod_lt _ hs0), List.getElem?_drop, Nat.mul_comm, Nat.div_add_mod, List.getElem?_eq_getElem hq]
    refine wpList_append_own_at W hgd s x t ho base e i0 z d.sz bytes ht hi hz0 hz1 hz2 hz hs0 v xs.length inner hs hown ad m c news hx (by rw [hnr.1, hm]) hnc hone (by simp only [maxLen]; omega) hl hbase (fun v1 w1 h1 h3 _ h4 => ?_)
    have h4' : v1.ownBlock = v.ownBlock ∨ ∃ b, v1.ownBlock = some b ∧ W.heap.size ≤ b := by
      rcases h4 with a | a
      · exact .inl a
      · exact .inr ⟨_, a, Nat.le_refl _⟩
    have hE : Ext (Mv M v) W w1 := Ext.of_grown h3
    refine h v1 w1 ⟨inner ++ news, by rw [List.length_append, hm]; exact h1, ?_⟩ (HB.grown h3 hbase (own_base hown)) h3 h4'
    exact Kd.reps_append (hr.imp_ (fun _ _ k => k.grow hE (Mv_grow (w1 := w1) h4'))) (hnr.imp_ (fun _ _ k => k.2.2.grow hE (Mv_grow (w1 := w1) h4')))
end
def RowE {α : Type} (d : Kd α) (M : Nat → Prop) (W : World) (A : Option Addr) (n : Nat) (xs : List α) : Prop :=
  xs.length = n ∧ n ≤ 9223372036854775807 ∧ (0 < n → ∃ ad inner, A = some ad ∧ Reps (fun x cs => (cs.length = d.sz ∧ ∀ u ∈ cs, u.oneCell' = true) ∧ Ever M W (fun W => d.K W x cs)) d.sz xs inner ∧ Ever M W (fun W => ∀ i u, inner[i]? = some u → W.cell? (ad.add i) = some u))
section
variable {α : Type} {d : Kd α} {M M' : Nat → Prop} {W w1 : World} {A : Option Addr} {n : Nat} {xs : List α}
theorem RowE.elems (h : RowE d M W A n xs) : ReadsRow (fun x cs => cs.length = d.sz ∧ (∀ u ∈ cs, u.oneCell' = true) ∧ Ever M W (fun W => d.K W x cs)) d.sz W A n xs := by
  refine ⟨h.1, h.2.1, fun hn => ?_⟩
  obtain ⟨ad, inner, rfl, h1, h2⟩ := h.2.2 hn
  refine ⟨ad, rfl, fun j p hj => ⟨(inner.drop (j * d.sz)).take d.sz, (h1.2 j p hj).1.1, ⟨(h1.2 j p hj).1.1, (h1.2 j p hj).1.2, (h1.2 j p hj).2⟩, fun i u hu => ?_⟩⟩
  · refine h2.now _ u ?_
    rw [List.getElem?_take] at hu
    split at hu
    · rw [List.getElem?_drop] at hu
      exact hu
    · cases hu
theorem RowE.ever (h : RowE d M W A n xs) : Ever M W (fun W => d.C W A n xs) := by
  refine ⟨fun w1 k => ⟨h.1, h.2.1, fun hn => ?_⟩⟩
  obtain ⟨ad, inner, rfl, h1, h2⟩ := h.2.2 hn
  refine ⟨ad, rfl, fun j p hj => ⟨(inner.drop (j * d.sz)).take d.sz, (h1.2 j p hj).1.1, (h1.2 j p hj).2.at_ _ k, fun i u hu => ?_⟩⟩
  refine h2.at_ _ k _ u ?_
  rw [List.getElem?_take] at hu
  split at hu
  · rw [List.getElem?_drop] at hu
    exact hu
  · cases hu
theorem RowE.grow (h : RowE d M W A n xs) (k : Ext M W w1) (hM : ∀ k, M' k → M k ∨ W.heap.size ≤ k) : RowE d M' w1 A n xs := by
  refine ⟨h.1, h.2.1, fun hn => ?_⟩
  obtain ⟨ad, inner, rfl, h1, h2⟩ := h.2.2 hn
  exact ⟨ad, inner, rfl, h1.imp_ (fun _ _ a => ⟨a.1, a.2.grow k hM⟩), h2.grow k hM⟩
theorem RowE.step (h : RowE d M W A n xs) (k : Ext M W w1) : RowE d M w1 A n xs := h.grow k (fun _ a => .inl a)
theorem RowE.nil : RowE d M W none ([] : List α).length [] := ⟨rfl, by simp, fun h => absurd h (Nat.lt_irrefl 0)⟩
theorem RowE.old (h : d.C W A n xs) (hM : ∀ k, M k → W.heap.size ≤ k) : RowE d M W A n xs := by
  refine ⟨h.1, h.2.1, fun hn => ?_⟩
  obtain ⟨ad, rfl, hc⟩ := h.2.2 hn
  obtain ⟨inner, hr, hcell⟩ := ReadsRow.inner_ h
  refine ⟨ad, inner, rfl, ?_, ?_⟩
  · refine hr.imp_ (fun x cs hk => ⟨⟨d.K_len hk, d.K_one hk⟩, Ever.old hk (fun _ hb => d.K_below hb hk) hM⟩)
  · exact Ever.old hcell (fun _ hb i u hu => pw_cell_below hb (hcell i u hu)) hM
theorem OwnE.row {e : TypeId} {base : Nat} {v : Value} (h : OwnE d M e base W v xs) (hM : ∀ k, v.ownBlock = some k → ¬ M k) : ∃ A c, v = .slice A xs.length c ∧ xs.length ≤ c ∧ RowE d M W A xs.length xs := by
  obtain ⟨i, h1, h2⟩ := h
  obtain ⟨A, c, rfl⟩ := own_slice h1
  have hm := (own_reads_row h1 (h2.imp_ (R' := fun _ _ => True) (fun _ _ _ => trivial)) rfl)
  obtain ⟨A', c', e', hmx⟩ := hm
  cases e'
  refine ⟨A, c, rfl, own_cap h1, rfl, hmx.2.1, fun hn => ?_⟩
  obtain ⟨g, cap, e', _, _⟩ := h1.form hn
  cases e'
  refine ⟨_, i, rfl, h2.imp_ (fun _ _ a => ⟨⟨d.K_len a.now, d.K_one a.now⟩, a.grow (Ext.refl _ _) (fun _ b => .inl (.inl b))⟩), ⟨fun w1 k j u hu => ?_⟩⟩
  exact (own_move h1 (fun b hb => k.block b (own_lt h1 b hb) (hM b hb))).cells rfl j u hu
end
def IsRow {α : Type} (d : Kd α) (M : Nat → Prop) (W : World) (v : Value) (xs : List α) : Prop := ∃ A c, v = .slice A xs.length c ∧ xs.length ≤ c ∧ RowE d M W A xs.length xs
theorem IsRow.grow {α : Type} {d : Kd α} {M M' : Nat → Prop} {W w1 : World} {v : Value} {xs : List α} (h : IsRow d M W v xs) (k : Ext M W w1) (hM : ∀ k, M' k → M k ∨ W.heap.size ≤ k) : IsRow d M' w1 v xs := by
  obtain ⟨A, c, e, hc, h⟩ := h
  exact ⟨A, c, e, hc, h.grow k hM⟩
theorem IsRow.step {α : Type} {d : Kd α} {M : Nat → Prop} {W w1 : World} {v : Value} {xs : List α} (h : IsRow d M W v xs) (k : Ext M W w1) : IsRow d M w1 v xs := h.grow k (fun _ a => .inl a)
theorem new_blk {W : World} {o : Obj} {g : Nat} (hg : g = W.heap.size) : (W.alloc o).heap[g]? = some o := by subst hg; exact heap_alloc_new W o
end Go.Proofs.Ytabjlanomebonaa.Core
end

section
namespace Go.Proofs.Ytabjlanomebonaa.ExtG
open Go.RowKit Go.Proofs.YtabjlanomebonaaW.PrintWords Go.Proofs.YtabjlanomebonaaW.PrintLast Go.Proofs.YtabjlanomebonaaW.PrintMore Go.Proofs.Ytabjlanomebonaa.Core Go.Proofs.Ytabjlanomebonaa.Ext
set_option linter.unusedVariables false
set_option linter.unusedSimpArgs false
theorem own_room {W : World} {base g cap : Nat} {e : TypeId} {cs : Array Value} (hg : W.heap[g]? = some (.cells cs e (0, 0))) (hb : base ≤ g) (hc : cs.size = cap) (hm : cap ≤ 9223372036854775807) : W.ownsRow base e 1 (.slice (some ⟨g, 0, none⟩) 0 cap) 0 (nums .u8 []) :=
  ⟨by simp [nums], .inr ⟨g, cap, cs, rfl, hb, hg, by omega, by simpa [maxLen] using hm, by simpa using hc, by simp [nums]⟩⟩
set_option maxHeartbeats 4000000 in
set_option maxRecDepth 100000 in
theorem grow_nil (n : Nat) (w : World) (hn : n ≤ 140737488355328) :
    Calls Try.prog 44 #[.slice none 0 0, .int .i64 n] w fun e w' => ∃ v, e = .returned v ∧ Kd.R (Kd.int .u8) 5 w' w.heap.size (fun _ => True) v [] ∧ Below w.heap.size w w' := by
  obtain ⟨i0, hi, hz0, hz1, hz2⟩ := info_parts info5
  have h3 : wrap64 (n : Int) = n := by unfold wrap64; omega
  rcases Nat.eq_zero_or_pos n with rfl | hp
  · go_enter Try.func44, Try.ntmps44
    go_wp2
    go_ret
    exact ⟨_, rfl, Kd.R_nil _ _ _ _ _, Below.refl _ _⟩
  · have hrz : ∀ ty, (Builtin.append_ #[22, 3] ty #[.slice none 0 0, .int .i64 (n : Int)]).run Try.prog w =
        .ok (.slice (some ⟨w.heap.size, 0, none⟩) n (grownCap w n 0 5)) (w.drew.alloc (.cells (#[] ++ Builtin.zeroCells (Value.int .u8 0).cells n ++ Builtin.zeroCells (Value.int .u8 0).cells (grownCap w n 0 5 - n)) 5)) := fun ty => by
      have h := Lib.run_append_grow_zeros (P := Try.prog) w 22 3 ty 5 i0 (.int .u8 0) .i64 .i64 Try.underlying22 Try.underlying3 hi hz0 none 0 0 [] (run_firstCells_none (P := Try.prog) (w := w.drew) i0.size 0 0 0) n hp (by omega) (by omega) (by omega) (by rw [hz2]; omega) (by rw [hz2]; have := growslice_fits (need := 0 + n) (old := 0) (bytes := 1) (by omega) (by omega); omega)
      simpa using h
    have hGn : n ≤ grownCap w n 0 5 := grownCap_ge w _ _ _
    have hG63 := grownCap_le_maxLen w n 0 5 (by unfold maxLen; omega)
    obtain ⟨G, hG⟩ : ∃ G, G = grownCap w n 0 5 := ⟨_, rfl⟩
    rw [← hG] at hrz hGn hG63
    unfold maxLen at hG63
    clear hG
    have hpos : (n : Int) > 0 := by omega
    go_enter Try.func44, Try.ntmps44
    go_wp2_with (at_builtin; refine Lib.wpList_append_run _ rfl _ _ _ _ rfl _ _ rfl rfl _ _ (hrz _) ?_)
    go_ret
    refine ⟨_, rfl, Kd.R_of_own (own_room (cs := Builtin.zeroCells #[Value.int .u8 0] n ++ Builtin.zeroCells #[Value.int .u8 0] (G - n)) ?_ (Nat.le_refl _) ?_ hG63) (fun _ _ => trivial), below_alloc (below_drew (Below.refl _ _)) _⟩
    · exact heap_alloc_new w _
    · simp [size_zeroCells]; omega
def Stage (a b : Nat) (s i : Value) : Prop := (i = .int .i64 0 ∧ s = .int .i64 0) ∨ (i = .int .i64 1 ∧ s = .int .i64 a) ∨ (i = .int .i64 2 ∧ s = .int .i64 ((a : Int) + b))
def StageR (B : Nat) (l1 l2 : List Int) (v i : Value) (W : World) : Prop :=
  (i = .int .i64 0 ∧ W.ownsRow B 5 1 v 0 (nums .u8 [])) ∨ (i = .int .i64 1 ∧ W.ownsRow B 5 1 v l1.length (nums .u8 l1)) ∨ (i = .int .i64 2 ∧ W.ownsRow B 5 1 v (l1 ++ l2).length (nums .u8 (l1 ++ l2)))
set_option maxHeartbeats 8000000 in
set_option maxRecDepth 100000 in
theorem concat2 (A1 A2 : Option Addr) (c1 c2 : Nat) (l1 l2 : List Int) (gb cb : Nat) (w : World) (hgb : w.heap[gb]? = some (.cells #[.slice A1 l1.length c1, .slice A2 l2.length c2] 22 (0, 0)))
    (HV1 : Aside0 (Kd.C (Kd.int .u8) w A1 l1.length l1)) (HV2 : Aside0 (Kd.C (Kd.int .u8) w A2 l2.length l2)) (hl1 : l1.length ≤ 17592186044416) (hl2 : l2.length ≤ 17592186044416) :
    Calls Try.prog 34 #[.slice (some ⟨gb, 0, none⟩) 2 cb] w fun e w' => ∃ v, e = .returned v ∧ Kd.R (Kd.int .u8) 5 w' w.heap.size (fun _ => True) v (l1 ++ l2) ∧ Below w.heap.size w w' := by
  have BK := Aside0.mk hgb
  clear hgb
  have HB := Aside0.mk (Below.refl w.heap.size w)
  have hcz0 : w.cell? ⟨gb, 0, none⟩ = some (.slice A1 l1.length c1) := (blk_cell BK.out 0).trans rfl
  have hcz1 : w.cell? ⟨gb, 1, none⟩ = some (.slice A2 l2.length c2) := (blk_cell BK.out 1).trans rfl
  go_enter Try.func34, Try.ntmps34
  go_wp2
  go_loop [3, 11] (fun s i => Stage l1.length l2.length s i) (fun _ i => 2 - (intOf i).toNat)
  case atStart => exact .inl ⟨rfl, rfl⟩
  case round =>
    rcases hrel with ⟨rfl, rfl⟩ | ⟨rfl, rfl⟩ | ⟨rfl, rfl⟩
    · go_wp2
      go_round
      case rel => exact .inr (.inl ⟨rfl, by simp⟩)
      case measure => simp [intOf]
    · go_wp2
      go_round
      case rel => exact .inr (.inr ⟨rfl, rfl⟩)
      case measure => simp [intOf]
    · clear hcz0 hcz1
      go_wp2_with (go_at_call 44; refine (show ((l1.length : Int) + l2.length) = ((l1.length + l2.length : Nat) : Int) from by omega) ▸ (grow_nil (l1.length + l2.length) _ (by omega)).mono ?_; rintro e w1 ⟨v, rfl, HR, HBc⟩; have HR1 := Aside0.mk (Kd.own_of_R HR); clear HR; have HB1 := Aside0.mk HBc; clear HBc)
      have hcz0 : w1.cell? ⟨gb, 0, none⟩ = some (.slice A1 l1.length c1) := (blk_cell (HB1.out.block _ (blk_lt BK.out) ▸ BK.out) 0).trans rfl
      have hcz1 : w1.cell? ⟨gb, 1, none⟩ = some (.slice A2 l2.length c2) := (blk_cell (HB1.out.block _ (blk_lt BK.out) ▸ BK.out) 1).trans rfl
      have hz1 := HB1.out.size
      go_loopw [6, 27] (fun v i wr => Aside0 (StageR w.heap.size l1 l2 v i wr) ∧ Aside0 (Below w.heap.size w wr)) (fun _ i _ => 2 - (intOf i).toNat)
      case atStart => exact ⟨⟨.inl ⟨rfl, HR1.out⟩⟩, HB1⟩
      case round =>
        obtain ⟨hst, HB2⟩ := hrel
        clear hcz0 hcz1 HR1
        have hcz0 : wr.cell? ⟨gb, 0, none⟩ = some (.slice A1 l1.length c1) := (blk_cell (HB2.out.block _ (blk_lt BK.out) ▸ BK.out) 0).trans rfl
        have hcz1 : wr.cell? ⟨gb, 1, none⟩ = some (.slice A2 l2.length c2) := (blk_cell (HB2.out.block _ (blk_lt BK.out) ▸ BK.out) 1).trans rfl
        obtain (⟨rfl, HO⟩ | ⟨rfl, HO⟩ | ⟨rfl, HO⟩) := hst.out
        · have HO1 := Aside0.mk HO
          clear HO hst
          obtain ⟨A6, c6, e6⟩ := own_slice HO1.out
          cases e6
          go_wp2_with ((with_reducible refine gate_builtin (b := .append) (xs := #[.tmp 31, .tmp 32]) rfl ?_); (refine print_append_row (w0 := w) w.heap.size rfl (.tmp 31) (.tmp 32) 22 5 .u8 1 rfl Try.underlying22 info5 (by omega) (.slice A6 0 c6) [] l1 A1 _ c1 rfl rfl ?d1 ?d2 ?d3 ?d4 ?d5 ?_; (case d1 => exact HO1.out); (case d2 => exact (Kd.reads_of_C HV1.out).below HB2.out); (case d3 => exact HB2.out); (case d4 => exact HB2.out.size); (case d5 => simp; omega); intro v3 w3 hown hbel hgrow hat; have HO3 := Aside0.mk hown; have HB3 := Aside0.mk hbel; clear hown hbel hgrow hat))
          go_roundw
          case rel => exact ⟨⟨.inr (.inl ⟨rfl, HO3.out⟩)⟩, HB3⟩
          case measure => simp [intOf]
        · have HO1 := Aside0.mk HO
          clear HO hst
          obtain ⟨A6, c6, e6⟩ := own_slice HO1.out
          cases e6
          go_wp2_with ((with_reducible refine gate_builtin (b := .append) (xs := #[.tmp 31, .tmp 32]) rfl ?_); (refine print_append_row (w0 := w) w.heap.size rfl (.tmp 31) (.tmp 32) 22 5 .u8 1 rfl Try.underlying22 info5 (by omega) (.slice A6 l1.length c6) l1 l2 A2 _ c2 rfl rfl ?d1 ?d2 ?d3 ?d4 ?d5 ?_; (case d1 => exact HO1.out); (case d2 => exact (Kd.reads_of_C HV2.out).below HB2.out); (case d3 => exact HB2.out); (case d4 => exact HB2.out.size); (case d5 => simp; omega); intro v3 w3 hown hbel hgrow hat; have HO3 := Aside0.mk hown; have HB3 := Aside0.mk hbel; clear hown hbel hgrow hat))
          go_roundw
          case rel => exact ⟨⟨.inr (.inr ⟨rfl, HO3.out⟩)⟩, HB3⟩
          case measure => simp [intOf]
        · have HO1 := Aside0.mk HO
          clear HO hst
          go_wp2
          go_ret
          exact ⟨_, rfl, Kd.R_of_own HO1.out (fun _ _ => trivial), HB2.out⟩
end Go.Proofs.Ytabjlanomebonaa.ExtG
end

section
namespace Go.Proofs.Ytabjlanomebonaa.PA
open Go.RowKit Go.Proofs.YtabjlanomebonaaW.PrintWords Go.Proofs.YtabjlanomebonaaW.PrintLast Go.Proofs.YtabjlanomebonaaW.PrintMore
attribute [local go_sem] max2_int min2_int max_two min_two max_three min_three max_four min_four   
set_option linter.unusedVariables false
set_option linter.unusedSimpArgs false
open Go.Proofs.Ytabjlanomebonaa.Ext
def errW : Option Int → Value
  | none => .nilIface
  | some c => .iface 0 (.int .i64 c)
theorem errW_none : errW none = .nilIface := rfl
theorem errW_some (c : Int) : errW (some c) = .iface 0 (.int .i64 c) := rfl
theorem info5 : (Try.prog.info? 5).map (fun i => (i.zero, i.size, i.bytes)) = some (some (.int .u8 0), 1, 1) := by kernel_rfl
end Go.Proofs.Ytabjlanomebonaa.PA
end

section
namespace Go.Proofs.Ytabjlanomebonaa.PA
open Go.RowKit Go.Proofs.YtabjlanomebonaaW.PrintWords Go.Proofs.YtabjlanomebonaaW.PrintLast Go.Proofs.YtabjlanomebonaaW.PrintMore
attribute [local go_sem] max2_int min2_int max_two min_two max_three min_three max_four min_four   
set_option linter.unusedVariables false
set_option linter.unusedSimpArgs false
open Go.Proofs.Ytabjlanomebonaa.Ext
def wire_At.f (l0 : List Int) (a1 : Int) : Option (Int × Int) := if a1 < 0 then (some (0, 1)) else (if a1 > (wrap64 ((l0.length : Int) - 2)) then (some (0, 7)) else (if 0 ≤ a1 then (if a1 < (l0.length : Int) then (if 0 ≤ (wrap64 (a1 + 1)) then (if (wrap64 (a1 + 1)) < (l0.length : Int) then (some (Go.bits .or .i64 (wrap64 ((wrap64 (rd l0 a1)) * 256)) (wrap64 (rd l0 (wrap64 (a1 + 1)))), 0)) else (none)) else (none)) else (none)) else (none)))
set_option maxHeartbeats 8000000 in
set_option maxRecDepth 100000 in
theorem wire_At.calls (A0 : Option Addr) (c0 : Nat) (l0 : List Int) (a1 : Int) (r1 : Int) (r2 : Int) (w : World) (hr0 : Kd.C (Kd.int .u8) w A0 l0.length l0) (hc0 : l0.length ≤ c0) (h : wire_At.f l0 a1 = some (r1, r2)) :
    Calls Try.prog 46 #[.slice A0 l0.length c0, .int .i64 a1] w fun e w' => e = .returned (.tuple #[.int .i64 r1, .int .i64 r2]) ∧ Drawn0 w w' := by
  have HR0 := Aside0.mk hr0
  have HC0 := Aside0.mk hc0
  clear hr0 hc0
  have H : (if a1 < 0 then (some (0, 1)) else (if a1 > (wrap64 ((l0.length : Int) - 2)) then (some (0, 7)) else (if 0 ≤ a1 then (if a1 < (l0.length : Int) then (if 0 ≤ (wrap64 (a1 + 1)) then (if (wrap64 (a1 + 1)) < (l0.length : Int) then (some (Go.bits .or .i64 (wrap64 ((wrap64 (rd l0 a1)) * 256)) (wrap64 (rd l0 (wrap64 (a1 + 1)))), 0)) else (none)) else (none)) else (none)) else (none)))) = some (r1, r2) := h
  clear h
  by_cases c3 : a1 < 0
  · rw [if_pos c3] at H
    have c3b0 : decide (a1 < 0) = true := decide_eq_true c3
    clear c3
    simp only [Option.some.injEq, Prod.mk.injEq] at H
    obtain ⟨rfl, rfl⟩ := H
    go_enter Try.func46, Try.ntmps46
    go_wp2
    repeat (go_quiet (fail); try go_wp2)
    go_ret2
    exact ⟨by first | rfl | (simp; done) | (simp [*]; done), by repeat (first | exact Drawn0.refl _ | apply Drawn0.step)⟩
  · rw [if_neg c3] at H
    have c3b0 : decide (a1 < 0) = false := decide_eq_false c3
    clear c3
    by_cases c4 : a1 > (wrap64 ((l0.length : Int) - 2))
    · rw [if_pos c4] at H
      have c4b0 : decide ((wrap64 ((l0.length : Int) - 2)) < a1) = true := decide_eq_true c4
      clear c4
      simp only [Option.some.injEq, Prod.mk.injEq] at H
      obtain ⟨rfl, rfl⟩ := H
      go_enter Try.func46, Try.ntmps46
      go_wp2
      repeat (go_quiet (fail); try go_wp2)
      go_ret2
      exact ⟨by first | rfl | (simp; done) | (simp [*]; done), by repeat (first | exact Drawn0.refl _ | apply Drawn0.step)⟩
    · rw [if_neg c4] at H
      have c4b0 : decide ((wrap64 ((l0.length : Int) - 2)) < a1) = false := decide_eq_false c4
      clear c4
      by_cases c5 : 0 ≤ a1
      · rw [if_pos c5] at H
        have c5b0 : decide (0 ≤ a1) = true := decide_eq_true c5
        clear c5
        by_cases c6 : a1 < (l0.length : Int)
        · rw [if_pos c6] at H
          have c6b0 : decide (a1 < (l0.length : Int)) = true := decide_eq_true c6
          clear c6
          obtain ⟨ji7, hji7⟩ : ∃ j_ : Int, (wrap64 (a1 + 1)) = j_ := ⟨_, rfl⟩
          replace H : (if 0 ≤ (ji7) then (if (ji7) < (l0.length : Int) then (some (Go.bits .or .i64 (wrap64 ((wrap64 (rd l0 a1)) * 256)) (wrap64 (rd l0 (ji7))), 0)) else (none)) else (none)) = some (r1, r2) := by first | (rw [hji7] at H; exact H) | (simp only [hji7] at H ⊢; exact H)
          have hji7w : (IntKind.i64.wrap (a1 + 1)) = ji7 := (i64_w _).trans hji7
          by_cases c8 : 0 ≤ (ji7)
          · rw [if_pos c8] at H
            have c8b0 : decide (0 ≤ (ji7)) = true := decide_eq_true c8
            clear c8
            by_cases c9 : (ji7) < (l0.length : Int)
            · rw [if_pos c9] at H
              have c9b0 : decide ((ji7) < (l0.length : Int)) = true := decide_eq_true c9
              clear c9
              simp only [Option.some.injEq, Prod.mk.injEq] at H
              obtain ⟨rfl, rfl⟩ := H
              have p103 : 0 ≤ (a1 : Int) := of_decide_eq_true (by first | (with_reducible assumption) | assumption)
              have q103 : a1 < (l0.length : Int) := of_decide_eq_true (by first | (with_reducible assumption) | assumption)
              obtain ⟨ad103, e103, hx103_0⟩ := Kd.at_int HR0.out a1 p103 q103
              cases e103
              replace p103 := eq_true p103
              replace q103 := eq_true q103
              have p104 : 0 ≤ ((ji7) : Int) := of_decide_eq_true (by first | (with_reducible assumption) | assumption)
              have q104 : (ji7) < (l0.length : Int) := of_decide_eq_true (by first | (with_reducible assumption) | assumption)
              obtain ⟨ad104, e104, hx104_0⟩ := Kd.at_int HR0.out (ji7) p104 q104
              obtain rfl : ad103 = ad104 := (by injection e104)
              replace p104 := eq_true p104
              replace q104 := eq_true q104
              go_enter Try.func46, Try.ntmps46
              go_wp2
              repeat (go_quiet (fail); try go_wp2)
              go_ret2
              exact ⟨by first | rfl | (simp; done) | (simp only [← hji7] <;> (first | rfl | simp)) | (simp [*]; done), by repeat (first | exact Drawn0.refl _ | apply Drawn0.step)⟩
            · rw [if_neg c9] at H
              exact absurd H (by simp)
          · rw [if_neg c8] at H
            exact absurd H (by simp)
        · rw [if_neg c6] at H
          exact absurd H (by simp)
      · rw [if_neg c5] at H
        exact absurd H (by simp)
end Go.Proofs.Ytabjlanomebonaa.PA
end

section
namespace Go.Proofs.Ytabjlanomebonaa.PA
open Go.RowKit Go.Proofs.YtabjlanomebonaaW.PrintWords Go.Proofs.YtabjlanomebonaaW.PrintLast Go.Proofs.YtabjlanomebonaaW.PrintMore
attribute [local go_sem] max2_int min2_int max_two min_two max_three min_three max_four min_four   
set_option linter.unusedVariables false
set_option linter.unusedSimpArgs false
open Go.Proofs.Ytabjlanomebonaa.Ext
def wire_Put.f (l0 : List Int) (a1 : Int) : Option (List Int × Int) := if a1 < 0 then (some (([] : List Int), 1)) else (if a1 > 65535 then (some (([] : List Int), 1)) else ((wire_behind.f l0 2).bind fun t105 => ((some (([(a1 / 256) % 256, (a1) % 256] : List Int) : List Int)).bind fun y108 => (if t105.length + y108.length < 140737488355328 then (some ((t105 ++ y108), 0)) else (none)))))
set_option maxHeartbeats 8000000 in
set_option maxRecDepth 100000 in
theorem wire_Put.calls (A0 : Option Addr) (c0 : Nat) (l0 : List Int) (a1 : Int) (r1 : List Int) (r2 : Int) (w : World) (hr0 : Kd.C (Kd.int .u8) w A0 l0.length l0) (hc0 : l0.length ≤ c0) (h : wire_Put.f l0 a1 = some (r1, r2)) :
    Calls Try.prog 35 #[.slice A0 l0.length c0, .int .i64 a1] w fun e w' => ∃ v0_ : Value, e = .returned (.tuple #[v0_, .int .i64 r2]) ∧ Kd.R (Kd.int .u8) 5 w' w.heap.size (fun _ => True) v0_ r1 ∧ Below w.heap.size w w' := by
  have HR0 := Aside0.mk hr0
  have HC0 := Aside0.mk hc0
  clear hr0 hc0
  have HB := Aside0.mk (Below.refl w.heap.size w)
  have H : (if a1 < 0 then (some (([] : List Int), 1)) else (if a1 > 65535 then (some (([] : List Int), 1)) else ((wire_behind.f l0 2).bind fun t105 => ((some (([(a1 / 256) % 256, (a1) % 256] : List Int) : List Int)).bind fun y108 => (if t105.length + y108.length < 140737488355328 then (some ((t105 ++ y108), 0)) else (none)))))) = some (r1, r2) := h
  clear h
  by_cases c3 : a1 < 0
  · rw [if_pos c3] at H
    have c3b0 : decide (a1 < 0) = true := decide_eq_true c3
    clear c3
    simp only [Option.some.injEq, Prod.mk.injEq] at H
    obtain ⟨rfl, rfl⟩ := H
    go_enter Try.func35, Try.ntmps35
    go_wp2
    go_ret2
    exact ⟨_, by first | rfl | (simp [errW_none, errW_some] <;> rfl) | (simp [*, errW_none, errW_some] <;> rfl), by first | exact Kd.R_nil _ _ _ _ _ | exact Kd.N_nil _ _ _ _ _ | exact Kd.V_nil _ _ _ _ _ | exact Kd.Q_nil _ _ _ _ _ | exact Kd.S_nil _ _ _ _ _, by repeat (first | (with_reducible first | exact HB.out | apply below_alloc | apply pw_below_drewN | apply below_drew1) | exact HB.out)⟩
  · rw [if_neg c3] at H
    have c3b0 : decide (a1 < 0) = false := decide_eq_false c3
    clear c3
    by_cases c4 : a1 > 65535
    · rw [if_pos c4] at H
      have c4b0 : decide (65535 < a1) = true := decide_eq_true c4
      clear c4
      simp only [Option.some.injEq, Prod.mk.injEq] at H
      obtain ⟨rfl, rfl⟩ := H
      go_enter Try.func35, Try.ntmps35
      go_wp2
      go_ret2
      exact ⟨_, by first | rfl | (simp [errW_none, errW_some] <;> rfl) | (simp [*, errW_none, errW_some] <;> rfl), by first | exact Kd.R_nil _ _ _ _ _ | exact Kd.N_nil _ _ _ _ _ | exact Kd.V_nil _ _ _ _ _ | exact Kd.Q_nil _ _ _ _ _ | exact Kd.S_nil _ _ _ _ _, by repeat (first | (with_reducible first | exact HB.out | apply below_alloc | apply pw_below_drewN | apply below_drew1) | exact HB.out)⟩
    · rw [if_neg c4] at H
      have c4b0 : decide (65535 < a1) = false := decide_eq_false c4
      clear c4
      replace H := Option.bind_eq_some_iff.mp H
      obtain ⟨t105, A50, H⟩ := H
      replace H : ((some (([(a1 / 256) % 256, (a1) % 256] : List Int) : List Int)).bind fun y108 => (if t105.length + y108.length < 140737488355328 then (some ((t105 ++ y108), 0)) else (none))) = some (r1, r2) := H
      have A5 := Aside0.mk A50
      clear A50
      obtain ⟨y108, hy108⟩ : ∃ y_ : List Int, y_ = (([(a1 / 256) % 256, (a1) % 256] : List Int)) := ⟨_, rfl⟩
      replace H : (if t105.length + y108.length < 140737488355328 then (some ((t105 ++ y108), 0)) else (none)) = some (r1, r2) := by first | (rw [hy108]; with_reducible exact H) | (have H2_ := (Option.bind_some _ _).symm.trans H; rw [hy108]; with_reducible exact H2_) | (have H2_ := (Option.bind_some _ _).symm.trans H; with_reducible exact H2_) | with_reducible exact H | (rw [hy108]; exact H) | exact H
      have Ny108 := Aside0.mk hy108
      clear hy108
      by_cases c6 : t105.length + y108.length < 140737488355328
      · rw [if_pos c6] at H
        have LMc6 := Aside0.mk c6
        clear c6
        obtain ⟨y111, hy111⟩ : ∃ y_ : List Int, y_ = (t105 ++ y108) := ⟨_, rfl⟩
        replace H : (some (y111, 0)) = some (r1, r2) := by first | (rw [hy111]; with_reducible exact H) | (have H2_ := (Option.bind_some _ _).symm.trans H; rw [hy111]; with_reducible exact H2_) | (have H2_ := (Option.bind_some _ _).symm.trans H; with_reducible exact H2_) | with_reducible exact H | (rw [hy111]; exact H) | exact H
        have Ny111 := Aside0.mk hy111
        clear hy111
        simp only [Option.some.injEq, Prod.mk.injEq] at H
        obtain ⟨rfl, rfl⟩ := H
        go_enter Try.func35, Try.ntmps35
        go_wp2_with (first | ((with_reducible refine gate_callee (f := 45) rfl ?_); refine goesL_ (some 13) rfl rfl Try.func45 (by kernel_rfl) rfl #[.slice A0 l0.length c0, .int .i64 2] rfl (by (try simp only [List.map_toArray, List.map_cons, List.map_nil]); first | done | rfl | (simp only [List.length_drop, List.length_take]; rfl)) ?_; (with_reducible refine (wire_behind.calls _ _ l0 2 t105 _ ?side1 ?side2 A5.out).mono ?_); (case side1 => repeat (first | exact HR0.out | (with_reducible refine Kd.C_alloc ?_ _) | (with_reducible refine Kd.C_drewN ?_ _) | (with_reducible refine Kd.C_drew ?_))); (case side2 => exact HC0.out); rintro e w7 ⟨v106, rfl, ho0, hb⟩; refine ⟨_, rfl, ?_⟩; have n0_ := Aside0.mk (Kd.R_lower ho0 (below_size (by repeat (first | (with_reducible first | exact HB.out | apply below_alloc | apply pw_below_drewN | apply below_drew1) | exact HB.out)))); have n1_ := Aside0.mk (below_step (by repeat (first | (with_reducible first | exact HB.out | apply below_alloc | apply pw_below_drewN | apply below_drew1) | exact HB.out)) hb); clear HB; have HO107 := n0_; have HB := n1_; clear n0_ n1_; (try clear hb); (try clear hb2); (try clear hk); (try clear hi); (try clear ho0)) | ((with_reducible refine gate_dst (N := 19) rfl ?_); refine Kd.R_lit (Kd.int .u8) _ 5 ?hg (N := 19) ?hd (xs := ([(a1 / 256) % 256, (a1) % 256] : List Int)) (inner := [.int .u8 ((a1 / 256) % 256), .int .u8 ((a1) % 256)]) (ok := fun _ => True) (okp := fun _ => True) ?hr ?hp (fun _ hk => hk) trivial (Below.refl _ _) (Nat.le_refl _) (by simp) ?_; (case hd => rfl); (case hg => rfl); (case hr => first | (go_simp; done) | (go_simp; rfl)); (case hp => exact (Reps.one (show Kd.M (Kd.int .u8) _ _ _ ((a1 / 256) % 256) [.int .u8 ((a1 / 256) % 256)] from rfl) (Reps.one (show Kd.M (Kd.int .u8) _ _ _ ((a1) % 256) [.int .u8 ((a1) % 256)] from rfl) (Reps.none _ _)))); intro v109 w8 ho9 hb hg_ hnew_; clear hg_ hnew_; (first | rw [← Ny108.out] at ho9 | (simp only [Int.reduceToNat] at ho9; rw [← Ny108.out] at ho9)); have n0_ := Aside0.mk (Kd.R_elder' (by (with_reducible repeat (first | apply Kd.R_alloc | apply Kd.R_drewN | apply Kd.R_drew)); exact HO107.out) (Kd.R_base ho9) hb); have n1_ := Aside0.mk (Kd.R_lower (Kd.R_new' ho9 (Kd.R_lt (by (with_reducible repeat (first | apply Kd.R_alloc | apply Kd.R_drewN | apply Kd.R_drew)); exact HO107.out))) (below_size (by repeat (first | (with_reducible first | exact HB.out | apply below_alloc | apply pw_below_drewN | apply below_drew1) | exact HB.out)))); have n2_ := Aside0.mk (below_step (by repeat (first | (with_reducible first | exact HB.out | apply below_alloc | apply pw_below_drewN | apply below_drew1) | exact HB.out)) hb); clear HO107; clear HB; have HO107 := n0_; have HO110 := n1_; have HB := n2_; clear n0_ n1_ n2_; clear hb ho9; obtain ⟨Ao11, co11, eo11⟩ := Kd.R_slice HO110.out; subst eo11) | ((with_reducible refine gate_builtin (b := .append) (xs := #[.tmp 13, .tmp 19]) rfl ?_); at_builtin; refine Kd.R_append_rows (Kd.int .u8) (w0 := w) w.heap.size rfl (.tmp 13) (.tmp 19) 22 5 (.int .u8 0) 1 rfl Try.underlying22 info5 rfl (by decide) (by omega) v106 t105 y108 _ _ _ (fun k_ => some k_ ≠ (.slice Ao11 y108.length co11 : Value).ownBlock) (fun _ => False) rfl rfl ?aO ?aR (fun _ _ h => h) (fun _ h => h.elim) ?aF ?aB ?aS ?aL ?_; (case aR => repeat (first | exact (Kd.R_reads' HO110.out).2.2 | (with_reducible refine Kd.C_alloc ?_ _) | (with_reducible refine Kd.C_drewN ?_ _) | (with_reducible refine Kd.C_drew ?_))); (case aB => exact (by repeat (first | (with_reducible first | exact HB.out | apply below_alloc | apply pw_below_drewN | apply below_drew1) | exact HB.out))); (case aF => exact (fun k_ hk => Kd.fresh' (Kd.R_lt (by (with_reducible repeat (first | apply Kd.R_alloc | apply Kd.R_drewN | apply Kd.R_drew)); exact HO110.out)) k_ hk)); (case aO => exact (by (with_reducible repeat (first | apply Kd.R_alloc | apply Kd.R_drewN | apply Kd.R_drew)); exact Kd.R_mono HO107.out (fun _ hk => hk.2))); (case aS => exact (below_size (by repeat (first | (with_reducible first | exact HB.out | apply below_alloc | apply pw_below_drewN | apply below_drew1) | exact HB.out)))); (case aL => have := LMc6.out; omega); intro v112 w10 ho hb hg hat; rw [← Ny111.out] at ho; have n0_ := Aside0.mk (Kd.R_after (ok := (fun _ => True)) (by (with_reducible repeat (first | apply Kd.R_alloc | apply Kd.R_drewN | apply Kd.R_drew)); exact HO110.out) hg hat); have n1_ := Aside0.mk (hb); have n2_ := Aside0.mk (ho); clear HO110; clear HB; clear HO107; have HO110 := n0_; have HB := n1_; have HO113 := n2_; clear n0_ n1_ n2_; clear ho hb hg hat))
        go_ret2
        exact ⟨_, by first | rfl | (simp [errW_none, errW_some] <;> rfl) | (simp [*, errW_none, errW_some] <;> rfl), by (with_reducible repeat (first | apply Kd.R_alloc | apply Kd.R_drewN | apply Kd.R_drew)); exact Kd.R_mono HO113.out (fun _ hk => trivial), by repeat (first | (with_reducible first | exact HB.out | apply below_alloc | apply pw_below_drewN | apply below_drew1) | exact HB.out)⟩
      · rw [if_neg c6] at H
        exact absurd H (by simp)
end Go.Proofs.Ytabjlanomebonaa.PA
end

section
namespace Go.Proofs.Ytabjlanomebonaa.ExtC
open Go.RowKit Go.Proofs.YtabjlanomebonaaW.PrintWords Go.Proofs.YtabjlanomebonaaW.PrintLast Go.Proofs.YtabjlanomebonaaW.PrintMore Go.Proofs.Ytabjlanomebonaa.Ext
set_option linter.unusedVariables false
set_option linter.unusedSimpArgs false
def Bytes (l : List Int) : Prop := ∀ x ∈ l, 0 ≤ x ∧ x < 256
instance (l : List Int) : Decidable (Bytes l) := by unfold Bytes; infer_instance
theorem wrap64_id (x : Int) (h0 : -9223372036854775808 ≤ x) (h1 : x ≤ 9223372036854775807) : wrap64 x = x := by unfold wrap64; omega
theorem bytes_rd {l : List Int} (hb : Bytes l) (i : Int) : 0 ≤ rd l i ∧ rd l i < 256 := by
  unfold rd
  rcases Nat.lt_or_ge i.toNat l.length with h | h
  · rw [List.getD_eq_getElem?_getD, List.getElem?_eq_getElem h]
    exact hb _ (List.getElem_mem h)
  · rw [List.getD_eq_getElem?_getD, List.getElem?_eq_none h]
    simp
theorem join_bytes (x y : Int) (hx : 0 ≤ x ∧ x < 256) (hy : 0 ≤ y ∧ y < 256) : Go.bits .or .i64 (wrap64 ((wrap64 x) * 256)) (wrap64 y) = 256 * x + y := by
  rw [wrap64_id x (by omega) (by omega), wrap64_id (x * 256) (by omega) (by omega), wrap64_id y (by omega) (by omega)]
  have hk : ∀ n : Int, 0 ≤ n → n < 2 ^ 63 → IntKind.i64.wrap n = n := fun n h0 h1 => by rw [IntKind.wrap_i64]; omega
  have h := bits_join .i64 63 (by decide) hk 8 (x * 256) y (by omega) (by omega) (by omega) (by omega) (by omega) (by omega)
  rw [h]; omega
def wire_At.f (l0 : List Int) (a1 : Int) : Option (Int × Int) :=
  if Bytes l0 ∧ l0.length ≤ 140737488351232 ∧ -9223372036854775808 ≤ a1 ∧ a1 ≤ 9223372036854775807 then (if a1 < 0 then some (0, 1) else if a1 > (l0.length : Int) - 2 then some (0, 7) else some (256 * rd l0 a1 + rd l0 (a1 + 1), 0)) else none
theorem wire_At.calls (A0 : Option Addr) (c0 : Nat) (l0 : List Int) (a1 : Int) (r1 : Int) (r2 : Int) (w : World) (hr0 : Kd.C (Kd.int .u8) w A0 l0.length l0) (hc0 : l0.length ≤ c0) (h : wire_At.f l0 a1 = some (r1, r2)) :
    Calls Try.prog 46 #[.slice A0 l0.length c0, .int .i64 a1] w fun e w' => e = .returned (.tuple #[.int .i64 r1, .int .i64 r2]) ∧ Drawn0 w w' := by
  unfold wire_At.f at h
  by_cases hc : Bytes l0 ∧ l0.length ≤ 140737488351232 ∧ -9223372036854775808 ≤ a1 ∧ a1 ≤ 9223372036854775807
  · rw [if_pos hc] at h
    obtain ⟨hb, hl, h0, h1⟩ := hc
    refine PA.wire_At.calls A0 c0 l0 a1 r1 r2 w hr0 hc0 ?_
    rw [← h]
    unfold PA.wire_At.f
    by_cases ha : a1 < 0
    · rw [if_pos ha, if_pos ha]
    · rw [if_neg ha, if_neg ha, wrap64_id _ (by omega) (by omega)]
      by_cases hg : a1 > (l0.length : Int) - 2
      · rw [if_pos hg, if_pos hg]
      · rw [if_neg hg, if_neg hg, wrap64_id (a1 + 1) (by omega) (by omega), if_pos (by omega), if_pos (by omega), if_pos (by omega), if_pos (by omega), join_bytes _ _ (bytes_rd hb _) (bytes_rd hb _)]
  · rw [if_neg hc] at h
    cases h
end Go.Proofs.Ytabjlanomebonaa.ExtC
end

section
namespace Go.Proofs.Ytabjlanomebonaa.StrA
open Go.RowKit Go.Proofs.YtabjlanomebonaaW.PrintWords Go.Proofs.YtabjlanomebonaaW.PrintLast Go.Proofs.YtabjlanomebonaaW.PrintMore Go.Proofs.Ytabjlanomebonaa.Core Go.Proofs.Ytabjlanomebonaa.Ext Go.Proofs.Ytabjlanomebonaa.ExtC Go.Proofs.Ytabjlanomebonaa.ExtG
set_option linter.unusedVariables false
set_option linter.unusedSimpArgs false
theorem stream_new (w : World) :
    Calls Try.prog 23 #[] w fun e w' => e = .returned (.pointer (some ⟨w.heap.size, 0, none⟩)) ∧ w' = w.alloc (.cells #[.slice none 0 0, .bool false] 72) := by
  have hu72 := Try.underlying72
  go_enter Try.func23, Try.ntmps23
  go_wp2
  go_ret
  exact ⟨rfl, rfl⟩
def IsStream (M : Nat → Prop) (W : World) (g : Nat) (rest : List Int) (broken : Bool) : Prop :=
  ∃ A c, W.heap[g]? = some (.cells #[.slice A rest.length c, .bool broken] 72 (0, 0)) ∧ rest.length ≤ c ∧ Ever M W (fun W => Kd.C (Kd.int .u8) W A rest.length rest)
theorem left_any (M : Nat → Prop) (g : Nat) (rest : List Int) (broken : Bool) (w : World) (h : IsStream M w g rest broken) :
    Calls Try.prog 25 #[.pointer (some ⟨g, 0, none⟩)] w fun e w' => e = .returned (.int .i64 rest.length) ∧ w' = w := by
  obtain ⟨A, c, hb, hc, hv⟩ := h
  have hu72 := Try.underlying72
  have BK := Aside0.mk hb
  have hcz0 : w.cell? ⟨g, 0, none⟩ = some (.slice A rest.length c) := (blk_cell BK.out 0).trans rfl
  clear hb hv hc
  go_enter Try.func25, Try.ntmps25
  go_wp2
  go_ret
  exact ⟨rfl, rfl⟩
theorem sfeed_broken (M : Nat → Prop) (g : Nat) (rest : List Int) (v : Value) (w : World) (h : IsStream M w g rest true) : Calls Try.prog 24 #[.pointer (some ⟨g, 0, none⟩), v] w fun e w' => e = .returned (.tuple #[.slice none 0 0, .int .i64 50]) ∧ w' = w := by
  obtain ⟨A, c, hb, hc, hv⟩ := h
  have hu72 := Try.underlying72
  have BK := Aside0.mk hb
  have hcz1 : w.cell? ⟨g, 1, none⟩ = some (.bool true) := (blk_cell BK.out 1).trans rfl
  clear hb hv hc
  go_enter Try.func24, Try.ntmps24
  go_wp2
  go_ret2
  exact ⟨rfl, rfl⟩
theorem next_short (M : Nat → Prop) (g : Nat) (rest : List Int) (broken : Bool) (w : World) (h : IsStream M w g rest broken) (h6 : rest.length < 6) :
    Calls Try.prog 38 #[.pointer (some ⟨g, 0, none⟩)] w fun e w' => e = .returned (.tuple #[.agg #[.int .i64 0, .int .i64 0, .slice none 0 0], .bool false]) ∧ IsStream M w' g rest broken ∧ Ext (fun k => k = g) w w' := by
  obtain ⟨A, c, hb, hc, hv⟩ := h
  have hu72 := Try.underlying72
  have hu37 := Try.underlying37
  have BK := Aside0.mk hb
  have HV := Aside0.mk hv
  have HC := Aside0.mk hc
  have hgl := blk_lt hb
  have hcz0 : w.cell? ⟨g, 0, none⟩ = some (.slice A rest.length c) := (blk_cell BK.out 0).trans rfl
  have h6b : decide ((rest.length : Int) < 6) = true := decide_eq_true (by omega)
  have h6n : decide (rest.length < 6) = true := decide_eq_true h6
  clear hb hv hc h6
  go_enter Try.func38, Try.ntmps38
  go_wp2
  refine bodyPost_ret (v := .tuple #[.agg #[.int .i64 0, .int .i64 0, .slice none 0 0], .bool false]) (by simp [results, Try.results38, go_sem]) rfl ⟨rfl, ?_, ?_⟩
  · exact ⟨A, c, by (with_reducible repeat (first | refine blk_drewN ?_ _ | refine blk_drew ?_ | refine blk_alloc ?_ _)); exact BK.out, HC.out, HV.out.step ((Ext.refl _ _).alloc _)⟩
  · exact (Ext.refl _ _).alloc _
def wd (b : List Int) (i : Int) : Int := 256 * rd b i + rd b (i + 1)
def pduOf (b : List Int) : List Int := (b.take (6 + wd b 4).toNat).drop 7
def restOf (b : List Int) : List Int := b.drop (6 + wd b 4).toNat
theorem rd_b {b : List Int} (h : Bytes b) (i : Int) : 0 ≤ rd b i ∧ rd b i < 256 := bytes_rd h i
theorem wd_bd {b : List Int} (h : Bytes b) (i : Int) : 0 ≤ wd b i ∧ wd b i ≤ 65535 := by
  have h1 := bytes_rd h i
  have h2 := bytes_rd h (i + 1)
  unfold wd
  omega
theorem at_f {b : List Int} (h : Bytes b) (hl : b.length ≤ 140737488351232) {i : Int} (h0 : 0 ≤ i) (h1 : i + 2 ≤ b.length) : wire_At.f b i = some (wd b i, 0) := by
  unfold wire_At.f
  rw [if_pos ⟨h, hl, by omega, by omega⟩, if_neg (by omega), if_neg (by omega)]
  rfl
theorem mid3 {P : Program} (t e : TypeId) {i : TypeInfo} (ht : P.underlying t = some (.slice e)) (hi : P.info? e = some i) (hsz : i.size = 1) (A : Option Addr) (c : Nat) (xs : List Int) (a b : Int) (h0 : 0 ≤ a) (h1 : a ≤ b) (hm : b ≤ xs.length) (hc : xs.length ≤ c) :
    ∃ A' : Option Addr, (∀ W : World, (Instr.slice t (.slice A xs.length c) (some (.int .i64 a)) (some (.int .i64 b)) (some (.int .i64 b))).run P W = .ok (.slice A' ((xs.take b.toNat).drop a.toNat).length (b - a).toNat) W) ∧
      (∀ w : World, ReadsInt w .u8 A xs.length xs → ReadsInt w .u8 A' ((xs.take b.toNat).drop a.toNat).length ((xs.take b.toNat).drop a.toNat)) ∧ ((xs.take b.toNat).drop a.toNat).length ≤ (b - a).toNat := by
  have hlt : (xs.take b.toNat).length = b.toNat := by rw [List.length_take]; omega
  have hl : ((xs.take b.toNat).drop a.toNat).length = b.toNat - a.toNat := by rw [List.length_drop, hlt]
  refine ⟨if b.toNat = a.toNat then A else A.map (·.add a.toNat), fun W => ?_, fun w h => ?_, by rw [hl]; omega⟩
  · have hel : P.elem t = e := by simp [Program.elem, ht]
    have hu : P.underlying t = some (.slice (P.elem t)) := by rw [hel]; exact ht
    rw [run_slice_lhm W t A xs.length c hu .i64 .i64 .i64 a b b h0 h1 (by omega) (by omega), hel, hl]
    simp [sizeOf, typeInfo, hi, hsz, sliced, Result.andThen]
    omega
  · have h2 := (h.take_ b.toNat (by omega)).drop_ (c := b.toNat) a.toNat (by omega) (by omega)
    rw [hl]
    exact h2
set_option maxHeartbeats 8000000 in
set_option maxRecDepth 100000 in
theorem next_bad0 (M : Nat → Prop) (g : Nat) (rest : List Int) (w : World) (hM : M g) (h : IsStream M w g rest false) (hby : Bytes rest) (hl : rest.length ≤ 17592186044416) (h6 : 6 ≤ rest.length) (hz : wd rest 2 ≠ 0) :
    Calls Try.prog 38 #[.pointer (some ⟨g, 0, none⟩)] w fun e w' => e = .returned (.tuple #[.agg #[.int .i64 0, .int .i64 0, .slice none 0 0], .bool false]) ∧ IsStream M w' g [] true ∧ Ext (fun k => k = g) w w' := by
  obtain ⟨A, c, hb, hc, hv⟩ := h
  have hu72 := Try.underlying72; have hu37 := Try.underlying37
  have BK := Aside0.mk hb; have HV := Aside0.mk hv; have HC := Aside0.mk hc; have HM := Aside0.mk hM
  have hgl := blk_lt hb
  have hgn : g ≠ w.heap.size := by omega
  have hcz0 : w.cell? ⟨g, 0, none⟩ = some (.slice A rest.length c) := (blk_cell BK.out 0).trans rfl; have hcz1 : w.cell? ⟨g, 1, none⟩ = some (.bool false) := (blk_cell BK.out 1).trans rfl; have hfz0 := blk_frozen BK.out 0; have hfz1 := blk_frozen BK.out 1
  have h6b : decide ((rest.length : Int) < 6) = false := decide_eq_false (by omega)
  have h6n : decide (rest.length < 6) = false := decide_eq_false (by omega)
  have F1 := Aside0.mk (at_f hby (by omega) (i := 2) (by omega) (by omega)); have F2 := Aside0.mk (at_f hby (by omega) (i := 4) (by omega) (by omega)); have F3 := Aside0.mk (at_f hby (by omega) (i := 0) (by omega) (by omega))
  have hw2 := wd_bd hby 2; have hw4 := wd_bd hby 4; have hw0 := wd_bd hby 0
  have HBY := Aside0.mk hby; clear hb hc hv hM hby
  have tok1 := Aside0.mk trivial
  generalize wd rest 2 = z at *
  generalize wd rest 4 = n at *
  clear F3 hw0
  have q1 : (z != 0) = true := bne_iff_ne.2 hz
  clear hz
  go_enter Try.func38, Try.ntmps38
  go_wp2_with (first | (go_at_call 46; have _t := tok1; (refine (wire_At.calls A c rest 2 z 0 _ (HV.out.at_ _ (Ext.toM HM.out (by (with_reducible repeat (first | exact Ext.refl _ _ | apply Ext.alloc | apply Ext.drewN | apply Ext.drew | refine Ext.setg ?_ _ | refine Ext.new ?_ (Nat.le_refl _) _))))) HC.out F1.out).mono ?_; rintro e w' ⟨rfl, ⟨nd1, rfl⟩⟩; clear tok1 _t; have tok2 := Aside0.mk trivial)) | (go_at_call 46; have _t := tok2; (refine (wire_At.calls A c rest 4 n 0 _ (HV.out.at_ _ (Ext.toM HM.out (by (with_reducible repeat (first | exact Ext.refl _ _ | apply Ext.alloc | apply Ext.drewN | apply Ext.drew | refine Ext.setg ?_ _ | refine Ext.new ?_ (Nat.le_refl _) _))))) HC.out F2.out).mono ?_; rintro e w' ⟨rfl, ⟨nd2, rfl⟩⟩; clear tok2 _t; have tok3 := Aside0.mk trivial)))
  refine bodyPost_ret (v := .tuple #[.agg #[.int .i64 0, .int .i64 0, .slice none 0 0], .bool false]) (by simp [results, Try.results38, go_sem, hgn, Ne.symm hgn]) rfl ⟨rfl, ⟨none, 0, ?_, Nat.le_refl _, Ever.nil _⟩, ?_⟩
  · (with_reducible repeat (first | refine blk_drewN ?_ _ | refine blk_drew ?_ | refine blk_alloc ?_ _ | refine blk_far ?_ hgn _)); with_reducible refine blk_put (cs := #[.slice A rest.length c, .bool true]) ?_ 0 _ rfl; (with_reducible repeat (first | refine blk_drewN ?_ _ | refine blk_drew ?_ | refine blk_alloc ?_ _ | refine blk_far ?_ hgn _)); with_reducible refine blk_put (cs := #[.slice A rest.length c, .bool false]) ?_ 1 _ rfl; (with_reducible repeat (first | refine blk_drewN ?_ _ | refine blk_drew ?_ | refine blk_alloc ?_ _ | refine blk_far ?_ hgn _)); exact BK.out
  · exact (by (with_reducible repeat (first | exact Ext.refl _ _ | apply Ext.alloc | apply Ext.drewN | apply Ext.drew | refine Ext.setg ?_ _ | refine Ext.new ?_ (Nat.le_refl _) _)))
set_option maxHeartbeats 8000000 in
set_option maxRecDepth 100000 in
theorem next_bad1 (M : Nat → Prop) (g : Nat) (rest : List Int) (w : World) (hM : M g) (h : IsStream M w g rest false) (hby : Bytes rest) (hl : rest.length ≤ 17592186044416) (h6 : 6 ≤ rest.length) (hz : wd rest 2 = 0) (hn : wd rest 4 < 2) :
    Calls Try.prog 38 #[.pointer (some ⟨g, 0, none⟩)] w fun e w' => e = .returned (.tuple #[.agg #[.int .i64 0, .int .i64 0, .slice none 0 0], .bool false]) ∧ IsStream M w' g [] true ∧ Ext (fun k => k = g) w w' := by
  obtain ⟨A, c, hb, hc, hv⟩ := h
  have hu72 := Try.underlying72; have hu37 := Try.underlying37
  have BK := Aside0.mk hb; have HV := Aside0.mk hv; have HC := Aside0.mk hc; have HM := Aside0.mk hM
  have hgl := blk_lt hb
  have hgn : g ≠ w.heap.size := by omega
  have hcz0 : w.cell? ⟨g, 0, none⟩ = some (.slice A rest.length c) := (blk_cell BK.out 0).trans rfl; have hcz1 : w.cell? ⟨g, 1, none⟩ = some (.bool false) := (blk_cell BK.out 1).trans rfl; have hfz0 := blk_frozen BK.out 0; have hfz1 := blk_frozen BK.out 1
  have h6b : decide ((rest.length : Int) < 6) = false := decide_eq_false (by omega)
  have h6n : decide (rest.length < 6) = false := decide_eq_false (by omega)
  have F1 := Aside0.mk (at_f hby (by omega) (i := 2) (by omega) (by omega)); have F2 := Aside0.mk (at_f hby (by omega) (i := 4) (by omega) (by omega)); have F3 := Aside0.mk (at_f hby (by omega) (i := 0) (by omega) (by omega))
  have hw2 := wd_bd hby 2; have hw4 := wd_bd hby 4; have hw0 := wd_bd hby 0
  have HBY := Aside0.mk hby; clear hb hc hv hM hby
  have tok1 := Aside0.mk trivial
  generalize wd rest 2 = z at *
  generalize wd rest 4 = n at *
  clear F3 hw0
  have q1 : (z != 0) = false := by rw [hz]; rfl
  have q2 : decide (n < 2) = true := decide_eq_true (by omega)
  clear hz hn
  go_enter Try.func38, Try.ntmps38
  go_wp2_with (first | (go_at_call 46; have _t := tok1; (refine (wire_At.calls A c rest 2 z 0 _ (HV.out.at_ _ (Ext.toM HM.out (by (with_reducible repeat (first | exact Ext.refl _ _ | apply Ext.alloc | apply Ext.drewN | apply Ext.drew | refine Ext.setg ?_ _ | refine Ext.new ?_ (Nat.le_refl _) _))))) HC.out F1.out).mono ?_; rintro e w' ⟨rfl, ⟨nd1, rfl⟩⟩; clear tok1 _t; have tok2 := Aside0.mk trivial)) | (go_at_call 46; have _t := tok2; (refine (wire_At.calls A c rest 4 n 0 _ (HV.out.at_ _ (Ext.toM HM.out (by (with_reducible repeat (first | exact Ext.refl _ _ | apply Ext.alloc | apply Ext.drewN | apply Ext.drew | refine Ext.setg ?_ _ | refine Ext.new ?_ (Nat.le_refl _) _))))) HC.out F2.out).mono ?_; rintro e w' ⟨rfl, ⟨nd2, rfl⟩⟩; clear tok2 _t; have tok3 := Aside0.mk trivial)))
  refine bodyPost_ret (v := .tuple #[.agg #[.int .i64 0, .int .i64 0, .slice none 0 0], .bool false]) (by simp [results, Try.results38, go_sem, hgn, Ne.symm hgn]) rfl ⟨rfl, ⟨none, 0, ?_, Nat.le_refl _, Ever.nil _⟩, ?_⟩
  · (with_reducible repeat (first | refine blk_drewN ?_ _ | refine blk_drew ?_ | refine blk_alloc ?_ _ | refine blk_far ?_ hgn _)); with_reducible refine blk_put (cs := #[.slice A rest.length c, .bool true]) ?_ 0 _ rfl; (with_reducible repeat (first | refine blk_drewN ?_ _ | refine blk_drew ?_ | refine blk_alloc ?_ _ | refine blk_far ?_ hgn _)); with_reducible refine blk_put (cs := #[.slice A rest.length c, .bool false]) ?_ 1 _ rfl; (with_reducible repeat (first | refine blk_drewN ?_ _ | refine blk_drew ?_ | refine blk_alloc ?_ _ | refine blk_far ?_ hgn _)); exact BK.out
  · exact (by (with_reducible repeat (first | exact Ext.refl _ _ | apply Ext.alloc | apply Ext.drewN | apply Ext.drew | refine Ext.setg ?_ _ | refine Ext.new ?_ (Nat.le_refl _) _)))
set_option maxHeartbeats 8000000 in
set_option maxRecDepth 100000 in
theorem next_bad2 (M : Nat → Prop) (g : Nat) (rest : List Int) (w : World) (hM : M g) (h : IsStream M w g rest false) (hby : Bytes rest) (hl : rest.length ≤ 17592186044416) (h6 : 6 ≤ rest.length) (hz : wd rest 2 = 0) (hn : 254 < wd rest 4) :
    Calls Try.prog 38 #[.pointer (some ⟨g, 0, none⟩)] w fun e w' => e = .returned (.tuple #[.agg #[.int .i64 0, .int .i64 0, .slice none 0 0], .bool false]) ∧ IsStream M w' g [] true ∧ Ext (fun k => k = g) w w' := by
  obtain ⟨A, c, hb, hc, hv⟩ := h
  have hu72 := Try.underlying72; have hu37 := Try.underlying37
  have BK := Aside0.mk hb; have HV := Aside0.mk hv; have HC := Aside0.mk hc; have HM := Aside0.mk hM
  have hgl := blk_lt hb
  have hgn : g ≠ w.heap.size := by omega
  have hcz0 : w.cell? ⟨g, 0, none⟩ = some (.slice A rest.length c) := (blk_cell BK.out 0).trans rfl; have hcz1 : w.cell? ⟨g, 1, none⟩ = some (.bool false) := (blk_cell BK.out 1).trans rfl; have hfz0 := blk_frozen BK.out 0; have hfz1 := blk_frozen BK.out 1
  have h6b : decide ((rest.length : Int) < 6) = false := decide_eq_false (by omega)
  have h6n : decide (rest.length < 6) = false := decide_eq_false (by omega)
  have F1 := Aside0.mk (at_f hby (by omega) (i := 2) (by omega) (by omega)); have F2 := Aside0.mk (at_f hby (by omega) (i := 4) (by omega) (by omega)); have F3 := Aside0.mk (at_f hby (by omega) (i := 0) (by omega) (by omega))
  have hw2 := wd_bd hby 2; have hw4 := wd_bd hby 4; have hw0 := wd_bd hby 0
  have HBY := Aside0.mk hby; clear hb hc hv hM hby
  have tok1 := Aside0.mk trivial
  generalize wd rest 2 = z at *
  generalize wd rest 4 = n at *
  clear F3 hw0
  have q1 : (z != 0) = false := by rw [hz]; rfl
  have q2 : decide (n < 2) = false := decide_eq_false (by omega)
  have q3 : decide (254 < n) = true := decide_eq_true hn
  clear hz hn
  go_enter Try.func38, Try.ntmps38
  go_wp2_with (first | (go_at_call 46; have _t := tok1; (refine (wire_At.calls A c rest 2 z 0 _ (HV.out.at_ _ (Ext.toM HM.out (by (with_reducible repeat (first | exact Ext.refl _ _ | apply Ext.alloc | apply Ext.drewN | apply Ext.drew | refine Ext.setg ?_ _ | refine Ext.new ?_ (Nat.le_refl _) _))))) HC.out F1.out).mono ?_; rintro e w' ⟨rfl, ⟨nd1, rfl⟩⟩; clear tok1 _t; have tok2 := Aside0.mk trivial)) | (go_at_call 46; have _t := tok2; (refine (wire_At.calls A c rest 4 n 0 _ (HV.out.at_ _ (Ext.toM HM.out (by (with_reducible repeat (first | exact Ext.refl _ _ | apply Ext.alloc | apply Ext.drewN | apply Ext.drew | refine Ext.setg ?_ _ | refine Ext.new ?_ (Nat.le_refl _) _))))) HC.out F2.out).mono ?_; rintro e w' ⟨rfl, ⟨nd2, rfl⟩⟩; clear tok2 _t; have tok3 := Aside0.mk trivial)))
  refine bodyPost_ret (v := .tuple #[.agg #[.int .i64 0, .int .i64 0, .slice none 0 0], .bool false]) (by simp [results, Try.results38, go_sem, hgn, Ne.symm hgn]) rfl ⟨rfl, ⟨none, 0, ?_, Nat.le_refl _, Ever.nil _⟩, ?_⟩
  · (with_reducible repeat (first | refine blk_drewN ?_ _ | refine blk_drew ?_ | refine blk_alloc ?_ _ | refine blk_far ?_ hgn _)); with_reducible refine blk_put (cs := #[.slice A rest.length c, .bool true]) ?_ 0 _ rfl; (with_reducible repeat (first | refine blk_drewN ?_ _ | refine blk_drew ?_ | refine blk_alloc ?_ _ | refine blk_far ?_ hgn _)); with_reducible refine blk_put (cs := #[.slice A rest.length c, .bool false]) ?_ 1 _ rfl; (with_reducible repeat (first | refine blk_drewN ?_ _ | refine blk_drew ?_ | refine blk_alloc ?_ _ | refine blk_far ?_ hgn _)); exact BK.out
  · exact (by (with_reducible repeat (first | exact Ext.refl _ _ | apply Ext.alloc | apply Ext.drewN | apply Ext.drew | refine Ext.setg ?_ _ | refine Ext.new ?_ (Nat.le_refl _) _)))
set_option maxHeartbeats 8000000 in
set_option maxRecDepth 100000 in
theorem next_more (M : Nat → Prop) (g : Nat) (rest : List Int) (w : World) (hM : M g) (h : IsStream M w g rest false) (hby : Bytes rest) (hl : rest.length ≤ 17592186044416) (h6 : 6 ≤ rest.length) (hz : wd rest 2 = 0) (hn0 : 2 ≤ wd rest 4) (hn1 : wd rest 4 ≤ 254) (hs : (rest.length : Int) < 6 + wd rest 4) :
    Calls Try.prog 38 #[.pointer (some ⟨g, 0, none⟩)] w fun e w' => e = .returned (.tuple #[.agg #[.int .i64 0, .int .i64 0, .slice none 0 0], .bool false]) ∧ IsStream M w' g rest false ∧ Ext (fun k => k = g) w w' := by
  obtain ⟨A, c, hb, hc, hv⟩ := h
  have hu72 := Try.underlying72; have hu37 := Try.underlying37
  have BK := Aside0.mk hb; have HV := Aside0.mk hv; have HC := Aside0.mk hc; have HM := Aside0.mk hM
  have hgl := blk_lt hb
  have hgn : g ≠ w.heap.size := by omega
  have hcz0 : w.cell? ⟨g, 0, none⟩ = some (.slice A rest.length c) := (blk_cell BK.out 0).trans rfl; have hcz1 : w.cell? ⟨g, 1, none⟩ = some (.bool false) := (blk_cell BK.out 1).trans rfl; have hfz0 := blk_frozen BK.out 0; have hfz1 := blk_frozen BK.out 1
  have h6b : decide ((rest.length : Int) < 6) = false := decide_eq_false (by omega)
  have h6n : decide (rest.length < 6) = false := decide_eq_false (by omega)
  have F1 := Aside0.mk (at_f hby (by omega) (i := 2) (by omega) (by omega)); have F2 := Aside0.mk (at_f hby (by omega) (i := 4) (by omega) (by omega)); have F3 := Aside0.mk (at_f hby (by omega) (i := 0) (by omega) (by omega))
  have hw2 := wd_bd hby 2; have hw4 := wd_bd hby 4; have hw0 := wd_bd hby 0
  have HBY := Aside0.mk hby; clear hb hc hv hM hby
  have tok1 := Aside0.mk trivial
  generalize wd rest 2 = z at *
  generalize wd rest 4 = n at *
  clear F3 hw0
  have q1 : (z != 0) = false := by rw [hz]; rfl
  have q2 : decide (n < 2) = false := decide_eq_false (by omega)
  have q3 : decide (254 < n) = false := decide_eq_false (by omega)
  have q4 : decide ((rest.length : Int) < 6 + n) = true := decide_eq_true hs
  clear hz hs
  go_enter Try.func38, Try.ntmps38
  go_wp2_with (first | (go_at_call 46; have _t := tok1; (refine (wire_At.calls A c rest 2 z 0 _ (HV.out.at_ _ (Ext.toM HM.out (by (with_reducible repeat (first | exact Ext.refl _ _ | apply Ext.alloc | apply Ext.drewN | apply Ext.drew | refine Ext.setg ?_ _ | refine Ext.new ?_ (Nat.le_refl _) _))))) HC.out F1.out).mono ?_; rintro e w' ⟨rfl, ⟨nd1, rfl⟩⟩; clear tok1 _t; have tok2 := Aside0.mk trivial)) | (go_at_call 46; have _t := tok2; (refine (wire_At.calls A c rest 4 n 0 _ (HV.out.at_ _ (Ext.toM HM.out (by (with_reducible repeat (first | exact Ext.refl _ _ | apply Ext.alloc | apply Ext.drewN | apply Ext.drew | refine Ext.setg ?_ _ | refine Ext.new ?_ (Nat.le_refl _) _))))) HC.out F2.out).mono ?_; rintro e w' ⟨rfl, ⟨nd2, rfl⟩⟩; clear tok2 _t; have tok3 := Aside0.mk trivial)))
  refine bodyPost_ret (v := .tuple #[.agg #[.int .i64 0, .int .i64 0, .slice none 0 0], .bool false]) (by simp [results, Try.results38, go_sem, hgn, Ne.symm hgn]) rfl ⟨rfl, ⟨A, c, ?_, HC.out, HV.out.step (Ext.toM HM.out (by (with_reducible repeat (first | exact Ext.refl _ _ | apply Ext.alloc | apply Ext.drewN | apply Ext.drew | refine Ext.setg ?_ _ | refine Ext.new ?_ (Nat.le_refl _) _))))⟩, (by (with_reducible repeat (first | exact Ext.refl _ _ | apply Ext.alloc | apply Ext.drewN | apply Ext.drew | refine Ext.setg ?_ _ | refine Ext.new ?_ (Nat.le_refl _) _)))⟩
  (with_reducible repeat (first | refine blk_drewN ?_ _ | refine blk_drew ?_ | refine blk_alloc ?_ _ | refine blk_far ?_ hgn _)); exact BK.out
set_option maxHeartbeats 8000000 in
set_option maxRecDepth 100000 in
theorem next_full (M : Nat → Prop) (g : Nat) (rest : List Int) (w : World) (hM : M g) (h : IsStream M w g rest false) (hby : Bytes rest) (hl : rest.length ≤ 17592186044416) (h6 : 6 ≤ rest.length) (hz : wd rest 2 = 0) (hn0 : 2 ≤ wd rest 4) (hn1 : wd rest 4 ≤ 254) (hs : 6 + wd rest 4 ≤ (rest.length : Int)) :
    Calls Try.prog 38 #[.pointer (some ⟨g, 0, none⟩)] w fun e w' => ∃ A' c', e = .returned (.tuple #[.agg #[.int .i64 (wd rest 0), .int .i64 (rd rest 6), .slice A' (pduOf rest).length c'], .bool true]) ∧ (pduOf rest).length ≤ c' ∧ Ever M w' (fun W => Kd.C (Kd.int .u8) W A' (pduOf rest).length (pduOf rest)) ∧ IsStream M w' g (restOf rest) false ∧ Ext (fun k => k = g) w w' := by
  obtain ⟨A, c, hb, hc, hv⟩ := h
  have hu72 := Try.underlying72; have hu37 := Try.underlying37
  have BK := Aside0.mk hb; have HV := Aside0.mk hv; have HC := Aside0.mk hc; have HM := Aside0.mk hM
  have hgl := blk_lt hb
  have hgn : g ≠ w.heap.size := by omega
  have hcz0 : w.cell? ⟨g, 0, none⟩ = some (.slice A rest.length c) := (blk_cell BK.out 0).trans rfl; have hcz1 : w.cell? ⟨g, 1, none⟩ = some (.bool false) := (blk_cell BK.out 1).trans rfl; have hfz0 := blk_frozen BK.out 0; have hfz1 := blk_frozen BK.out 1
  have h6b : decide ((rest.length : Int) < 6) = false := decide_eq_false (by omega)
  have h6n : decide (rest.length < 6) = false := decide_eq_false (by omega)
  have F1 := Aside0.mk (at_f hby (by omega) (i := 2) (by omega) (by omega)); have F2 := Aside0.mk (at_f hby (by omega) (i := 4) (by omega) (by omega)); have F3 := Aside0.mk (at_f hby (by omega) (i := 0) (by omega) (by omega))
  have hw2 := wd_bd hby 2; have hw4 := wd_bd hby 4; have hw0 := wd_bd hby 0
  have HBY := Aside0.mk hby; clear hb hc hv hM hby
  have tok1 := Aside0.mk trivial
  obtain ⟨i0, hi0, hz0_, hz1_, hz2_⟩ := info_parts info5
  obtain ⟨A1, hcut1, hcutr1, hcutl1⟩ := mid3 22 5 Try.underlying22 hi0 hz1_ A c rest 7 (6 + wd rest 4) (by omega) (by omega) (by omega) HC.out
  obtain ⟨A2, hcut2, hcutr2, hcutl2⟩ := print_drop_of (P := Try.prog) (Value.int .u8) 0 22 5 .i64 Try.underlying22 hi0 hz1_ A c rest (6 + wd rest 4) (by omega) (by omega) HC.out
  have HV1 : Aside0 (Ever M w (fun W => Kd.C (Kd.int .u8) W A1 (pduOf rest).length (pduOf rest))) := ⟨HV.out.imp (fun W hW => Kd.C_of_reads (d := (0 : Int)) (h1 := fun _ => rfl) (hcutr1 W (Kd.reads_of_C hW)))⟩
  have HV2 : Aside0 (Ever M w (fun W => Kd.C (Kd.int .u8) W A2 (restOf rest).length (restOf rest))) := ⟨HV.out.imp (fun W hW => Kd.C_of_reads (d := (0 : Int)) (h1 := fun _ => rfl) (hcutr2 W (Kd.reads_of_C hW)))⟩
  change ∀ W : World, _ = Result.ok (Value.slice A1 (pduOf rest).length _) W at hcut1; change ∀ W : World, _ = Result.ok (Value.slice A2 (restOf rest).length _) W at hcut2
  have hp1 : (pduOf rest).length ≤ (6 + wd rest 4 - 7).toNat := hcutl1; have hp2 : (restOf rest).length ≤ c - (6 + wd rest 4).toNat := hcutl2
  clear hcutr1 hcutr2 hcutl1 hcutl2 hi0 hz0_ hz1_ hz2_
  obtain ⟨ad, rfl, hx6⟩ := Kd.at_int HV.out.now 6 (by omega) (by omega)
  have hru := rd_b HBY.out 6
  have HX6E : Aside0 (Ever M w (fun W => W.cell? ⟨ad.block, ad.off + 6, none⟩ = some (.int .u8 (rd rest 6)))) := ⟨HV.out.imp (fun W hW => by obtain ⟨a_, e_, h_⟩ := Kd.at_int hW 6 (by omega) (by omega); cases e_; simpa only [show (6 : Int).toNat = 6 from rfl, Nat.reduceEqDiff, Go.Addr.add, ↓reduceIte] using h_)⟩
  generalize rd rest 6 = u at *
  generalize pduOf rest = p at *
  generalize restOf rest = r at *
  generalize wd rest 2 = z at *
  generalize wd rest 4 = n at *
  generalize wd rest 0 = t at *
  have q1 : (z != 0) = false := by rw [hz]; rfl
  have q2 : decide (n < 2) = false := decide_eq_false (by omega)
  have q3 : decide (254 < n) = false := decide_eq_false (by omega)
  have q4 : decide ((rest.length : Int) < 6 + n) = false := decide_eq_false (by omega)
  clear hz
  clear hx6
  have hp67 : (6 : Int) < (rest.length : Int) := by omega
  have hp6n : (6 < rest.length) = True := eq_true (by omega)
  go_enter Try.func38, Try.ntmps38
  go_upto_region 12 with (first | (go_at_call 46; have _t := tok1; (refine (wire_At.calls (some ad) c rest 2 z 0 _ (HV.out.at_ _ (Ext.toM HM.out (by (with_reducible repeat (first | exact Ext.refl _ _ | apply Ext.alloc | apply Ext.drewN | apply Ext.drew | refine Ext.setg ?_ _ | refine Ext.new ?_ (Nat.le_refl _) _))))) HC.out F1.out).mono ?_; rintro e w' ⟨rfl, ⟨nd1, rfl⟩⟩; clear tok1 _t; have tok2 := Aside0.mk trivial)) | (go_at_call 46; have _t := tok2; (refine (wire_At.calls (some ad) c rest 4 n 0 _ (HV.out.at_ _ (Ext.toM HM.out (by (with_reducible repeat (first | exact Ext.refl _ _ | apply Ext.alloc | apply Ext.drewN | apply Ext.drew | refine Ext.setg ?_ _ | refine Ext.new ?_ (Nat.le_refl _) _))))) HC.out F2.out).mono ?_; rintro e w' ⟨rfl, ⟨nd2, rfl⟩⟩; clear tok2 _t; have tok3 := Aside0.mk trivial)) | (go_at_call 46; have _t := tok3; (refine (wire_At.calls (some ad) c rest 0 t 0 _ (HV.out.at_ _ (Ext.toM HM.out (by (with_reducible repeat (first | exact Ext.refl _ _ | apply Ext.alloc | apply Ext.drewN | apply Ext.drew | refine Ext.setg ?_ _ | refine Ext.new ?_ (Nat.le_refl _) _))))) HC.out F3.out).mono ?_; rintro e w' ⟨rfl, ⟨nd3, rfl⟩⟩; clear tok3 _t; have tok4 := Aside0.mk trivial)))
  refine start_ (n := 18) (S := fun W => W.cell? ⟨g, 0, none⟩ = some (.slice (some ad) rest.length c) ∧ W.cell? ⟨ad.block, ad.off + 6, none⟩ = some (.int .u8 u)) (ds := []) #[false, false, false, false, false, false, false, false, false, false, false, false, false, false, false, false, false, false] (by kernel_rfl) rfl rfl ?_ (fun hHeld => ?_)
  · first | (exact ⟨(blk_cell (t := 72) (cs := #[.slice (some ad) rest.length c, .bool false]) (by (with_reducible repeat (first | refine blk_drewN ?_ _ | refine blk_drew ?_ | refine blk_alloc ?_ _ | refine blk_far ?_ hgn _)); exact BK.out) 0).trans rfl, HX6E.out.at_ _ (Ext.toM HM.out (by (with_reducible repeat (first | exact Ext.refl _ _ | apply Ext.alloc | apply Ext.drewN | apply Ext.drew | refine Ext.setg ?_ _ | refine Ext.new ?_ (Nat.le_refl _) _))))⟩) | (exact ⟨(blk_cell (t := 72) (cs := #[.slice (some ad) rest.length c, .bool false]) (by (with_reducible repeat (first | refine blk_drewN ?_ _ | refine blk_drew ?_ | refine blk_alloc ?_ _ | refine blk_far ?_ hgn2 _)); exact BK2.out) 0).trans rfl, HX6E.out.at_ _ (Ext.toM HM.out (by (with_reducible repeat (first | exact HE2.out | apply Ext.alloc | apply Ext.drewN | apply Ext.drew | refine Ext.setg ?_ _ | refine Ext.new ?_ hgw2 _))))⟩)
  refine pure_ (i := 0) (N := some 70) (v := ?_) (a' := ?_) #[true, false, false, false, false, false, false, false, false, false, false, false, false, false, false, false, false, false] rfl rfl (by kernel_rfl) (fun _ _ _ h => h) (Or.inl ⟨by rfl, ?_⟩) ?_ ?_
  rotate_left
  · intro w'
    go_simp
    with_reducible rfl
  rotate_left
  · simp only [Act.put, List.setIfInBounds_toArray, List.set_cons_zero, List.set_cons_succ, i64_w, i32_w]
    rfl
  refine pure_ (i := 1) (N := some 71) (v := ?_) (a' := ?_) #[true, true, false, false, false, false, false, false, false, false, false, false, false, false, false, false, false, false] rfl rfl (by kernel_rfl) (fun _ _ _ h => h) (Or.inl ⟨by rfl, ?_⟩) ?_ ?_
  rotate_left
  · intro w'
    go_simp
    with_reducible rfl
  rotate_left
  · simp only [Act.put, List.setIfInBounds_toArray, List.set_cons_zero, List.set_cons_succ, i64_w, i32_w]
    rfl
  refine pure_ (i := 2) (N := some 72) (v := ?_) (a' := ?_) #[true, true, true, false, false, false, false, false, false, false, false, false, false, false, false, false, false, false] rfl rfl (by kernel_rfl) (fun _ _ _ h => h) (Or.inl ⟨by rfl, ?_⟩) ?_ ?_
  rotate_left
  · intro w'
    go_simp
    with_reducible rfl
  rotate_left
  · simp only [Act.put, List.setIfInBounds_toArray, List.set_cons_zero, List.set_cons_succ, i64_w, i32_w]
    rfl
  refine pure_ (i := 3) (N := some 73) (v := ?_) (a' := ?_) #[true, true, true, true, false, false, false, false, false, false, false, false, false, false, false, false, false, false] rfl rfl (by kernel_rfl) (fun _ _ _ h => h) (Or.inl ⟨by rfl, ?_⟩) ?_ ?_
  rotate_left
  · intro w'
    go_simp
    with_reducible rfl
  rotate_left
  · simp only [Act.put, List.setIfInBounds_toArray, List.set_cons_zero, List.set_cons_succ, i64_w, i32_w]
    rfl
  refine take_ (i := 4) (N := some 74) (v := ?_) (a' := ?_) #[true, true, true, true, true, false, false, false, false, false, false, false, false, false, false, false, false, false] rfl rfl (by kernel_rfl) (fun _ _ _ h => h) (Or.inl ⟨by rfl, ?_⟩) hHeld ?_ ?_
  rotate_left
  · rintro w' ⟨s0, s1⟩
    go_simp
    with_reducible rfl
  rotate_left
  · simp only [Act.put, List.setIfInBounds_toArray, List.set_cons_zero, List.set_cons_succ, i64_w, i32_w]
    rfl
  refine take_ (i := 5) (N := some 75) (v := ?_) (a' := ?_) #[true, true, true, true, true, true, false, false, false, false, false, false, false, false, false, false, false, false] rfl rfl (by kernel_rfl) (fun _ _ _ h => h) (Or.inl ⟨by rfl, ?_⟩) hHeld ?_ ?_
  rotate_left
  · rintro w' ⟨s0, s1⟩
    go_simp
    with_reducible rfl
  rotate_left
  · simp only [Act.put, List.setIfInBounds_toArray, List.set_cons_zero, List.set_cons_succ, i64_w, i32_w]
    rfl
  refine take_ (i := 6) (N := some 76) (v := ?_) (a' := ?_) #[true, true, true, true, true, true, true, false, false, false, false, false, false, false, false, false, false, false] rfl rfl (by kernel_rfl) (fun _ _ _ h => h) (Or.inl ⟨by rfl, ?_⟩) hHeld ?_ ?_
  rotate_left
  · rintro w' ⟨s0, s1⟩
    go_simp
    with_reducible rfl
  rotate_left
  · simp only [Act.put, List.setIfInBounds_toArray, List.set_cons_zero, List.set_cons_succ, i64_w, i32_w]
    rfl
  refine take_ (i := 7) (N := some 77) (v := ?_) (a' := ?_) #[true, true, true, true, true, true, true, true, false, false, false, false, false, false, false, false, false, false] rfl rfl (by kernel_rfl) (fun _ _ _ h => h) (Or.inl ⟨by rfl, ?_⟩) hHeld ?_ ?_
  rotate_left
  · rintro w' ⟨s0, s1⟩
    go_simp
    with_reducible rfl
  rotate_left
  · simp only [Act.put, List.setIfInBounds_toArray, List.set_cons_zero, List.set_cons_succ, i64_w, i32_w]
    rfl
  refine pure_ (i := 8) (N := some 78) (v := ?_) (a' := ?_) #[true, true, true, true, true, true, true, true, true, false, false, false, false, false, false, false, false, false] rfl rfl (by kernel_rfl) (fun _ _ _ h => h) (Or.inl ⟨by rfl, ?_⟩) ?_ ?_
  rotate_left
  · intro w'
    go_simp
    with_reducible rfl
  rotate_left
  · simp only [Act.put, List.setIfInBounds_toArray, List.set_cons_zero, List.set_cons_succ, i64_w, i32_w]
    rfl
  refine pure_ (i := 9) (N := some 79) (v := ?_) (a' := ?_) #[true, true, true, true, true, true, true, true, true, true, false, false, false, false, false, false, false, false] rfl rfl (by kernel_rfl) (fun _ _ _ h => h) (Or.inl ⟨by rfl, ?_⟩) ?_ ?_
  rotate_left
  · intro w'
    go_simp
    with_reducible rfl
  rotate_left
  · simp only [Act.put, List.setIfInBounds_toArray, List.set_cons_zero, List.set_cons_succ, i64_w, i32_w]
    rfl
  refine pure_ (i := 10) (N := some 80) (v := ?_) (a' := ?_) #[true, true, true, true, true, true, true, true, true, true, true, false, false, false, false, false, false, false] rfl rfl (by kernel_rfl) (fun _ _ _ h => h) (Or.inl ⟨by rfl, ?_⟩) ?_ ?_
  rotate_left
  · intro w'
    go_simp
    with_reducible rfl
  rotate_left
  · simp only [Act.put, List.setIfInBounds_toArray, List.set_cons_zero, List.set_cons_succ, i64_w, i32_w]
    rfl
  refine take_ (i := 11) (N := some 81) (v := ?_) (a' := ?_) #[true, true, true, true, true, true, true, true, true, true, true, true, false, false, false, false, false, false] rfl rfl (by kernel_rfl) (fun _ _ _ h => h) (Or.inl ⟨by rfl, ?_⟩) hHeld ?_ ?_
  rotate_left
  · rintro w' ⟨s0, s1⟩
    go_simp
    with_reducible rfl
  rotate_left
  · simp only [Act.put, List.setIfInBounds_toArray, List.set_cons_zero, List.set_cons_succ, i64_w, i32_w]
    rfl
  refine pure_ (i := 12) (N := some 82) (v := ?_) (a' := ?_) #[true, true, true, true, true, true, true, true, true, true, true, true, true, false, false, false, false, false] rfl rfl (by kernel_rfl) (fun _ _ _ h => h) (Or.inl ⟨by rfl, ?_⟩) ?_ ?_
  rotate_left
  · intro w'
    go_simp
    with_reducible rfl
  rotate_left
  · simp only [Act.put, List.setIfInBounds_toArray, List.set_cons_zero, List.set_cons_succ, i64_w, i32_w]
    rfl
  refine pure_ (i := 13) (N := some 83) (v := ?_) (a' := ?_) #[true, true, true, true, true, true, true, true, true, true, true, true, true, true, false, false, false, false] rfl rfl (by kernel_rfl) (fun _ _ _ h => h) (Or.inl ⟨by rfl, ?_⟩) ?_ ?_
  rotate_left
  · intro w'
    go_simp
    with_reducible rfl
  rotate_left
  · simp only [Act.put, List.setIfInBounds_toArray, List.set_cons_zero, List.set_cons_succ, i64_w, i32_w]
    rfl
  refine take_ (i := 14) (N := some 84) (v := ?_) (a' := ?_) #[true, true, true, true, true, true, true, true, true, true, true, true, true, true, true, false, false, false] rfl rfl (by kernel_rfl) (fun _ _ _ h => h) (Or.inl ⟨by rfl, ?_⟩) hHeld ?_ ?_
  rotate_left
  · rintro w' ⟨s0, s1⟩
    go_simp
    with_reducible rfl
  rotate_left
  · simp only [Act.put, List.setIfInBounds_toArray, List.set_cons_zero, List.set_cons_succ, i64_w, i32_w]
    rfl
  refine pure_ (i := 15) (N := some 85) (v := ?_) (a' := ?_) #[true, true, true, true, true, true, true, true, true, true, true, true, true, true, true, true, false, false] rfl rfl (by kernel_rfl) (fun _ _ _ h => h) (Or.inl ⟨by rfl, ?_⟩) ?_ ?_
  rotate_left
  · intro w'
    go_simp
    with_reducible rfl
  rotate_left
  · simp only [Act.put, List.setIfInBounds_toArray, List.set_cons_zero, List.set_cons_succ, i64_w, i32_w]
    rfl
  refine one_ (i := 16) (N := some 11) #[true, true, true, true, true, true, true, true, true, true, true, true, true, true, true, true, true, false] rfl rfl (by kernel_rfl) (by decide) (fun K hK => ?_)
  refine box_step (by rfl) (N := 11) rfl (cs := #[.int .i64 0, .int .i64 0, .slice none 0 0]) (t := 37) ?hr ?_
  case hr => first | (go_simp; done) | (go_simp; rfl)
  intro g2 hg_ w2 hbox HBc
  have hgn2 : g ≠ g2 := by rw [hg_]; have := hgl; simp; omega
  have hgw2 : w.heap.size ≤ g2 := by rw [hg_]; simp
  have hrn2 : w.heap.size ≠ g2 := by rw [hg_]; simp
  have BK2 : Aside0 (w2.heap[g]? = some (.cells #[.slice (some ad) rest.length c, .bool false] 72 (0, 0))) := Aside0.mk (blk_below (g := g) (by (with_reducible repeat (first | refine blk_drewN ?_ _ | refine blk_drew ?_ | refine blk_alloc ?_ _ | refine blk_far ?_ hgn _)); exact BK.out) HBc)
  have BKr : Aside0 (w2.heap[w.heap.size]? = some (.cells #[.int .i64 0, .int .i64 0, .slice none 0 0] 37 (0, 0))) := Aside0.mk (blk_below (g := w.heap.size) (by (with_reducible repeat (first | refine blk_drewN ?_ _ | refine blk_drew ?_)); exact new_blk rfl) HBc)
  have HE2 : Aside0 (Ext (fun k => k = g) w w2) := ⟨Ext.then_below (by (with_reducible repeat (first | exact Ext.refl _ _ | apply Ext.alloc | apply Ext.drewN | apply Ext.drew | refine Ext.setg ?_ _ | refine Ext.new ?_ (Nat.le_refl _) _))) HBc⟩
  have BKn := Aside0.mk hbox
  clear hbox HBc hg_
  refine hK.out _ _ ?_ (fun hHeld => ?_)
  · first | (exact ⟨(blk_cell (t := 72) (cs := #[.slice (some ad) rest.length c, .bool false]) (by (with_reducible repeat (first | refine blk_drewN ?_ _ | refine blk_drew ?_ | refine blk_alloc ?_ _ | refine blk_far ?_ hgn _)); exact BK.out) 0).trans rfl, HX6E.out.at_ _ (Ext.toM HM.out (by (with_reducible repeat (first | exact Ext.refl _ _ | apply Ext.alloc | apply Ext.drewN | apply Ext.drew | refine Ext.setg ?_ _ | refine Ext.new ?_ (Nat.le_refl _) _))))⟩) | (exact ⟨(blk_cell (t := 72) (cs := #[.slice (some ad) rest.length c, .bool false]) (by (with_reducible repeat (first | refine blk_drewN ?_ _ | refine blk_drew ?_ | refine blk_alloc ?_ _ | refine blk_far ?_ hgn2 _)); exact BK2.out) 0).trans rfl, HX6E.out.at_ _ (Ext.toM HM.out (by (with_reducible repeat (first | exact HE2.out | apply Ext.alloc | apply Ext.drewN | apply Ext.drew | refine Ext.setg ?_ _ | refine Ext.new ?_ hgw2 _))))⟩)
  clear hK K
  refine norm_ (a' := ?_) ?_ ?_
  rotate_left
  · show Act.put _ (some 11) _ = _
    simp only [Act.put, List.setIfInBounds_toArray, List.set_cons_zero, List.set_cons_succ, i64_w, i32_w]
    rfl
  refine one_ (i := 17) (N := none) #[true, true, true, true, true, true, true, true, true, true, true, true, true, true, true, true, true, true] rfl rfl (by kernel_rfl) (by decide) (fun K hK => ?_)
  have hcn0 : w2.cell? ⟨g2, 0, none⟩ = some (.int .i64 0) := (blk_cell BKn.out 0).trans rfl; have hfn0 := blk_frozen BKn.out 0; have hcn1 : w2.cell? ⟨g2, 1, none⟩ = some (.int .i64 0) := (blk_cell BKn.out 1).trans rfl; have hfn1 := blk_frozen BKn.out 1; have hcn2 : w2.cell? ⟨g2, 2, none⟩ = some (.slice none 0 0) := (blk_cell BKn.out 2).trans rfl; have hfn2 := blk_frozen BKn.out 2
  refine skip_ (w1 := ?_) (by rfl) rfl ?_ ?_
  rotate_left
  · go_simp
    rfl
  refine hK.out _ _ ?_ (fun hHeld => ?_)
  · first | (exact ⟨(blk_cell (t := 72) (cs := #[.slice (some ad) rest.length c, .bool false]) (by (with_reducible repeat (first | refine blk_drewN ?_ _ | refine blk_drew ?_ | refine blk_alloc ?_ _ | refine blk_far ?_ hgn _)); exact BK.out) 0).trans rfl, HX6E.out.at_ _ (Ext.toM HM.out (by (with_reducible repeat (first | exact Ext.refl _ _ | apply Ext.alloc | apply Ext.drewN | apply Ext.drew | refine Ext.setg ?_ _ | refine Ext.new ?_ (Nat.le_refl _) _))))⟩) | (exact ⟨(blk_cell (t := 72) (cs := #[.slice (some ad) rest.length c, .bool false]) (by (with_reducible repeat (first | refine blk_drewN ?_ _ | refine blk_drew ?_ | refine blk_alloc ?_ _ | refine blk_far ?_ hgn2 _)); exact BK2.out) 0).trans rfl, HX6E.out.at_ _ (Ext.toM HM.out (by (with_reducible repeat (first | exact HE2.out | apply Ext.alloc | apply Ext.drewN | apply Ext.drew | refine Ext.setg ?_ _ | refine Ext.new ?_ hgw2 _))))⟩)
  clear hK K
  refine done_ (by kernel_rfl) ?_
  have BK3 : Aside0 ((((w2.setCell ⟨g2, 0, none⟩ (.int .i64 t)).setCell ⟨g2, 1, none⟩ (.int .i64 (wrap64 u))).setCell ⟨g2, 2, none⟩ (.slice A1 p.length (6 + n - 7).toNat)).heap[g]? = some (.cells #[.slice (some ad) rest.length c, .bool false] 72 (0, 0))) := Aside0.mk (blk_far (blk_far (blk_far BK2.out hgn2 _) hgn2 _) hgn2 _)
  have BKr3 : Aside0 ((((w2.setCell ⟨g2, 0, none⟩ (.int .i64 t)).setCell ⟨g2, 1, none⟩ (.int .i64 (wrap64 u))).setCell ⟨g2, 2, none⟩ (.slice A1 p.length (6 + n - 7).toNat)).heap[w.heap.size]? = some (.cells #[.int .i64 0, .int .i64 0, .slice none 0 0] 37 (0, 0))) := Aside0.mk (blk_far (blk_far (blk_far BKr.out hrn2 _) hrn2 _) hrn2 _)
  have BKn3 : Aside0 ((((w2.setCell ⟨g2, 0, none⟩ (.int .i64 t)).setCell ⟨g2, 1, none⟩ (.int .i64 (wrap64 u))).setCell ⟨g2, 2, none⟩ (.slice A1 p.length (6 + n - 7).toNat)).heap[g2]? = some (.cells #[.int .i64 t, .int .i64 (wrap64 u), .slice A1 p.length (6 + n - 7).toNat] 37 (0, 0))) := Aside0.mk (blk_put (cs := #[.int .i64 t, .int .i64 (wrap64 u), .slice none 0 0]) (cs' := #[.int .i64 t, .int .i64 (wrap64 u), .slice A1 p.length (6 + n - 7).toNat]) (blk_put (cs := #[.int .i64 t, .int .i64 0, .slice none 0 0]) (cs' := #[.int .i64 t, .int .i64 (wrap64 u), .slice none 0 0]) (blk_put (cs := #[.int .i64 0, .int .i64 0, .slice none 0 0]) (cs' := #[.int .i64 t, .int .i64 0, .slice none 0 0]) BKn.out 0 _ rfl) 1 _ rfl) 2 _ rfl)
  have HE3 : Aside0 (Ext (fun k => k = g) w (((w2.setCell ⟨g2, 0, none⟩ (.int .i64 t)).setCell ⟨g2, 1, none⟩ (.int .i64 (wrap64 u))).setCell ⟨g2, 2, none⟩ (.slice A1 p.length (6 + n - 7).toNat))) := ⟨(((HE2.out.new hgw2 _).new hgw2 _).new hgw2 _)⟩
  clear BK2 BKr BKn HE2 hcn0 hcn1 hcn2 hfn0 hfn1 hfn2 hcz0 hcz1 hfz0 hfz1
  have hwu : wrap64 u = u := by unfold wrap64; omega
  rw [hwu] at BK3 BKr3 BKn3 HE3
  have HWU := Aside0.mk hwu
  rw [hwu]
  clear hwu
  generalize (((w2.setCell ⟨g2, 0, none⟩ (.int .i64 t)).setCell ⟨g2, 1, none⟩ (.int .i64 u)).setCell ⟨g2, 2, none⟩ (.slice A1 p.length (6 + n - 7).toNat)) = w3 at BK3 BKr3 BKn3 HE3 ⊢
  have hcg0 : w3.cell? ⟨g, 0, none⟩ = some (.slice (some ad) rest.length c) := (blk_cell BK3.out 0).trans rfl; have hfg0 := blk_frozen BK3.out 0
  have hcn0 : w3.cell? ⟨g2, 0, none⟩ = some (.int .i64 t) := (blk_cell BKn3.out 0).trans rfl; have hfn0 := blk_frozen BKn3.out 0
  have hcn1 : w3.cell? ⟨g2, 1, none⟩ = some (.int .i64 u) := (blk_cell BKn3.out 1).trans rfl; have hfn1 := blk_frozen BKn3.out 1
  have hcn2 : w3.cell? ⟨g2, 2, none⟩ = some (.slice A1 p.length (6 + n - 7).toNat) := (blk_cell BKn3.out 2).trans rfl; have hfn2 := blk_frozen BKn3.out 2
  have hcr0 : w3.cell? ⟨w.heap.size, 0, none⟩ = some (.int .i64 0) := (blk_cell BKr3.out 0).trans rfl; have hfr0 := blk_frozen BKr3.out 0
  have hcr1 : w3.cell? ⟨w.heap.size, 1, none⟩ = some (.int .i64 0) := (blk_cell BKr3.out 1).trans rfl; have hfr1 := blk_frozen BKr3.out 1
  have hcr2 : w3.cell? ⟨w.heap.size, 2, none⟩ = some (.slice none 0 0) := (blk_cell BKr3.out 2).trans rfl; have hfr2 := blk_frozen BKr3.out 2
  have hgn2' : g2 ≠ g := fun e => hgn2 e.symm
  have hrn2' : g2 ≠ w.heap.size := fun e => hrn2 e.symm
  have hgnr : w.heap.size ≠ g := fun e => hgn e.symm
  go_wp2
  refine bodyPost_ret (v := .tuple #[.agg #[.int .i64 t, .int .i64 u, .slice A1 p.length (6 + n - 7).toNat], .bool true]) (by simp [results, Try.results38, go_sem, hgn, hgnr, hcr0, hcr1, hcr2, hcg0]) rfl ⟨A1, (6 + n - 7).toNat, rfl, hp1, HV1.out.step (Ext.toM HM.out (by (with_reducible repeat (first | exact HE3.out | apply Ext.alloc | apply Ext.drewN | apply Ext.drew | refine Ext.setg ?_ _ | refine Ext.new ?_ (Nat.le_refl _) _)))), ⟨A2, c - (6 + n).toNat, ?_, hp2, HV2.out.step (Ext.toM HM.out (by (with_reducible repeat (first | exact HE3.out | apply Ext.alloc | apply Ext.drewN | apply Ext.drew | refine Ext.setg ?_ _ | refine Ext.new ?_ (Nat.le_refl _) _))))⟩, (by (with_reducible repeat (first | exact HE3.out | apply Ext.alloc | apply Ext.drewN | apply Ext.drew | refine Ext.setg ?_ _ | refine Ext.new ?_ (Nat.le_refl _) _)))⟩
  (with_reducible repeat (first | refine blk_drewN ?_ _ | refine blk_drew ?_ | refine blk_alloc ?_ _ | refine blk_far ?_ hgn _)); exact blk_put (cs := #[.slice (some ad) rest.length c, .bool false]) BK3.out 0 _ rfl
end Go.Proofs.Ytabjlanomebonaa.StrA
end

section
namespace Go.Proofs.Ytabjlanomebonaa.StrB
open Go.RowKit Go.Proofs.YtabjlanomebonaaW.PrintWords Go.Proofs.YtabjlanomebonaaW.PrintLast Go.Proofs.YtabjlanomebonaaW.PrintMore Go.Proofs.Ytabjlanomebonaa.Core Go.Proofs.Ytabjlanomebonaa.Ext Go.Proofs.Ytabjlanomebonaa.ExtC Go.Proofs.Ytabjlanomebonaa.ExtG Go.Proofs.Ytabjlanomebonaa.StrA
set_option linter.unusedVariables false
set_option linter.unusedSimpArgs false
def bad (b : List Int) : Prop := wd b 2 ≠ 0 ∨ wd b 4 < 2 ∨ 254 < wd b 4
instance (b : List Int) : Decidable (bad b) := by unfold bad; infer_instance
def allF : Nat → List Int → List PZ.S37 × List Int × Bool
  | 0, b => ([], b, false)
  | k + 1, b => if b.length < 6 then ([], b, false) else if bad b then ([], [], true) else if (b.length : Int) < 6 + wd b 4 then ([], b, false)
      else (⟨wd b 0, rd b 6, pduOf b⟩ :: (allF k (restOf b)).1, (allF k (restOf b)).2)
theorem next_bad (M : Nat → Prop) (g : Nat) (rest : List Int) (w : World) (hM : M g) (h : IsStream M w g rest false) (hby : Bytes rest) (hl : rest.length ≤ 17592186044416) (h6 : 6 ≤ rest.length) (hb : bad rest) :
    Calls Try.prog 38 #[.pointer (some ⟨g, 0, none⟩)] w fun e w' => e = .returned (.tuple #[.agg #[.int .i64 0, .int .i64 0, .slice none 0 0], .bool false]) ∧ IsStream M w' g [] true ∧ Ext (fun k => k = g) w w' := by
  by_cases h0 : wd rest 2 = 0
  · by_cases h2 : wd rest 4 < 2
    · exact next_bad1 M g rest w hM h hby hl h6 h0 h2
    · exact next_bad2 M g rest w hM h hby hl h6 h0 (by rcases hb with a | a | a; exact absurd h0 a; exact absurd a h2; exact a)
  · exact next_bad0 M g rest w hM h hby hl h6 h0
theorem next_stop (M : Nat → Prop) (g : Nat) (rest : List Int) (w : World) (hM : M g) (h : IsStream M w g rest false) (hby : Bytes rest) (hl : rest.length ≤ 17592186044416) (hs : rest.length < 6 ∨ (¬ bad rest ∧ (rest.length : Int) < 6 + wd rest 4)) :
    Calls Try.prog 38 #[.pointer (some ⟨g, 0, none⟩)] w fun e w' => e = .returned (.tuple #[.agg #[.int .i64 0, .int .i64 0, .slice none 0 0], .bool false]) ∧ IsStream M w' g rest false ∧ Ext (fun k => k = g) w w' := by
  by_cases h6 : rest.length < 6
  · exact next_short M g rest false w h h6
  · obtain ⟨h1, h2⟩ : ¬ bad rest ∧ (rest.length : Int) < 6 + wd rest 4 := by rcases hs with a | a; exact absurd a h6; exact a
    have e0 : wd rest 2 = 0 := Classical.byContradiction fun a => h1 (.inl a)
    have e1 : ¬ wd rest 4 < 2 := fun a => h1 (.inr (.inl a))
    have e2 : ¬ 254 < wd rest 4 := fun a => h1 (.inr (.inr a))
    exact next_more M g rest w hM h hby hl (by omega) e0 (by omega) (by omega) h2
theorem info37 : (Try.prog.info? 37).map (fun i => (i.zero, i.size, i.bytes)) = some (some (.agg #[(.int .i64 0), (.int .i64 0), (.slice none 0 0)]), 3, 40) := by kernel_rfl
theorem isStream_grow {M M' : Nat → Prop} {W W1 : World} {g : Nat} {rest : List Int} {br : Bool} (h : IsStream M W g rest br) (k : Ext M W W1) (hM : ∀ k, M' k → M k ∨ W.heap.size ≤ k) (hg : W1.heap[g]? = W.heap[g]?) : IsStream M' W1 g rest br := by
  obtain ⟨A, c, h1, h2, h3⟩ := h
  exact ⟨A, c, hg.trans h1, h2, h3.grow k hM⟩
theorem isStream_below {M : Nat → Prop} {W W1 : World} {g : Nat} {rest : List Int} {br : Bool} (h : IsStream M W g rest br) (k : Below W.heap.size W W1) : IsStream M W1 g rest br := by
  have h0 := h
  obtain ⟨A, c, h1, _, _⟩ := h0
  exact isStream_grow h (.of_below k) (fun _ a => .inl a) (k.block g (blk_lt h1))
theorem isStream_lt {M : Nat → Prop} {W : World} {g : Nat} {rest : List Int} {br : Bool} (h : IsStream M W g rest br) : g < W.heap.size := by obtain ⟨_, _, h1, _⟩ := h; exact blk_lt h1
set_option maxHeartbeats 8000000 in
set_option maxRecDepth 100000 in
theorem sfeed (M : Nat → Prop) (g : Nat) (rest b : List Int) (A2 : Option Addr) (c2 : Nat) (w : World) (hM : M g) (hMb : ∀ k, M k → k < w.heap.size) (h : IsStream M w g rest false) (hV : Ever M w (fun W => Kd.C (Kd.int .u8) W A2 b.length b)) (hb1 : Bytes rest) (hb2 : Bytes b) (hl1 : rest.length ≤ 1000000) (hl2 : b.length ≤ 1000000)
    (K : Nat) (hK : rest.length + b.length < K) (fs : List PZ.S37) (r : List Int) (br : Bool) (hr : allF K (rest ++ b) = (fs, r, br)) :
    Calls Try.prog 24 #[.pointer (some ⟨g, 0, none⟩), .slice A2 b.length c2] w fun e w' => ∃ v', e = .returned (.tuple #[v', .int .i64 (if br = true then 50 else 0)]) ∧ IsRow PZ.k37 M w' v' fs ∧ IsStream M w' g r br ∧ Ext (fun k => k = g) w w' := by
  obtain ⟨A, c, hb, hc, hv⟩ := h
  have hu72 := Try.underlying72
  have hu37 := Try.underlying37
  have BK := Aside0.mk hb; have HV := Aside0.mk hv; have HV2 := Aside0.mk hV; have HC := Aside0.mk hc; have HM := Aside0.mk hM; have HMB := Aside0.mk hMb
  have hcz0 : w.cell? ⟨g, 0, none⟩ = some (.slice A rest.length c) := (blk_cell BK.out 0).trans rfl; have hcz1 : w.cell? ⟨g, 1, none⟩ = some (.bool false) := (blk_cell BK.out 1).trans rfl; have hfz0 := blk_frozen BK.out 0
  have HBY : Aside0 (Bytes (rest ++ b)) := ⟨fun x hx => by rcases List.mem_append.1 hx with a | a; exact hb1 x a; exact hb2 x a⟩
  have hly : Aside0 ((rest ++ b).length < K ∧ (rest ++ b).length ≤ 2000000) := ⟨by rw [List.length_append]; omega⟩
  have HR := Aside0.mk hr
  clear hb hc hv hM hMb hV hb1 hb2 hr
  go_enter Try.func24, Try.ntmps24
  go_wp2_with (go_at_call 34; refine (concat2 A A2 c c2 rest b _ 2 _ ?k1 ⟨HV.out.at_ _ ((Ext.refl _ _).alloc _)⟩ ⟨HV2.out.at_ _ ((Ext.refl _ _).alloc _)⟩ (by omega) (by omega)).mono ?_; (case k1 => exact new_blk rfl); rintro e w4 ⟨v4, rfl, HR4, HB4⟩; generalize hy : rest ++ b = y at HR4 HR HBY hly; clear hy; obtain ⟨A4, c4, rfl, hc4, HV4⟩ := Ever.made (M := M) HR4 (fun k hk => Ext.lt_ (M := M) ((Ext.refl _ _).alloc _) (HMB.out k hk)); have HV4 := Aside0.mk HV4; have HC4 := Aside0.mk hc4; have BK4 : Aside0 (w4.heap[g]? = some (.cells #[.slice A rest.length c, .bool false] 72 (0, 0))) := Aside0.mk (blk_below (g := g) (blk_alloc BK.out _) HB4); have HE4 : Aside0 (Ext (fun k => k = g) w w4) := ⟨Ext.then_below ((Ext.refl _ _).alloc _) HB4⟩; clear HR4 HB4 hc4; have hcy0 : w4.cell? ⟨g, 0, none⟩ = some (.slice A rest.length c) := (blk_cell BK4.out 0).trans rfl; have hfy0 := blk_frozen BK4.out 0)
  have HS : Aside0 (IsStream (Mv M (.slice none 0 0)) (w4.setCell ⟨g, 0, none⟩ (.slice A4 y.length c4)) g y false) := ⟨⟨A4, c4, blk_put BK4.out 0 _ rfl, HC4.out, HV4.out.grow ((Ext.refl _ _).set HM.out _) (fun k hk => hk.elim .inl (fun e => by simp [Value.ownBlock] at e))⟩⟩
  have HE5 : Aside0 (Ext (fun k => k = g) w (w4.setCell ⟨g, 0, none⟩ (.slice A4 y.length c4))) := ⟨HE4.out.setg _⟩
  clear BK HV HV2 HC hcz0 hcz1 hfz0 HV4 HC4 BK4 HE4 hcy0 hfy0
  go_loopg [6] K (fun kq v6 wr => ∃ (out ft : List PZ.S37) (rs : List Int), Aside0 (allF kq rs = (ft, r, br)) ∧ Aside0 (out ++ ft = fs) ∧ Aside0 (Bytes rs) ∧ rs.length < kq ∧ rs.length ≤ 2000000 ∧ out.length + rs.length ≤ 2000000 ∧ Aside0 (kq ≤ K) ∧ Aside0 (OwnE PZ.k37 M 37 w.heap.size wr v6 out) ∧ Aside0 (IsStream (Mv M v6) wr g rs false) ∧ Aside0 (Ext (fun k => k = g) w wr))
  case atStart => exact ⟨[], fs, y, HR, ⟨rfl⟩, HBY, hly.out.1, hly.out.2, by have := hly.out.2; simpa using this, ⟨Nat.le_refl _⟩, ⟨OwnE.nil _ _ _ _ _⟩, HS, HE5⟩
  case round =>
    clear HR HBY hly HS HE5
    obtain ⟨out, ft, rs, HR, HF, HBY, hk, hl, hol, HKK, HO, HS, HE⟩ := hrel
    cases gk with
    | zero => omega
    | succ k1 =>
      have hgw : g < w.heap.size := HMB.out g HM.out
      have hown : Aside0 (∀ k, u6.ownBlock = some k → k ≠ g) := ⟨fun k hk e => by have := HO.out.base_le k hk; omega⟩
      have HML : Aside0 (∀ k, Mv M u6 k → k < wr.heap.size) := ⟨fun k hk => by rcases hk with a | a; exact HE.out.lt_ (HMB.out k a); exact HO.out.lt k a.symm⟩
      have hXX : ∀ {w5 : World}, Ext (fun k => k = g) wr w5 → OwnE PZ.k37 M 37 w.heap.size w5 u6 out := fun k => HO.out.step (Ext.toM (.inl HM.out) k) (fun b hb => k.block b (HO.out.lt b hb) (hown.out b hb))
      have HXX := Aside0.mk @hXX
      clear hXX
      have hre := HR.out
      clear HR
      unfold allF at hre
      by_cases h6 : rs.length < 6
      · rw [if_pos h6] at hre
        simp only [Prod.mk.injEq] at hre
        obtain ⟨rfl, rfl, rfl⟩ := hre
        have HST : Aside0 (rs.length < 6 ∨ (¬ bad rs ∧ (rs.length : Int) < 6 + wd rs 4)) := ⟨(.inl h6)⟩
        go_wp2_with (go_at_call 38; (refine (next_stop (Mv M u6) g rs _ (.inl HM.out) HS.out HBY.out (by omega) HST.out).mono ?_; rintro e w5 ⟨rfl, hs5, hx5⟩; have HS5 := Aside0.mk hs5; have HX5 := Aside0.mk hx5; obtain ⟨A6, c6, hb6, _, _⟩ := hs5; have hq1 : w5.cell? ⟨g, 1, none⟩ = some (.bool false) := (blk_cell hb6 1).trans rfl; clear hb6; have hgl : g < w5.heap.size := isStream_lt HS5.out; clear hx5))
        go_ret2
        have HO7 := HXX.out HX5.out; obtain ⟨A7, c7, e7, hc7, hr7⟩ := HO7.row (fun k hk hm => absurd (HO7.base_le k hk) (Nat.not_le.2 (HMB.out k hm))); exact ⟨_, rfl, IsRow.step (by rw [← HF.out, List.append_nil]; exact ⟨A7, c7, e7, hc7, hr7⟩) ((Ext.refl _ _).alloc _), isStream_grow HS5.out ((Ext.refl _ _).alloc _) (fun k hk => .inl (.inl hk)) (by obtain ⟨_, _, h1, _⟩ := HS5.out; exact (blk_alloc h1 _).trans h1.symm), (HE.out.trans HX5.out).alloc _⟩
      rw [if_neg h6] at hre
      by_cases hbd : bad rs
      · rw [if_pos hbd] at hre
        simp only [Prod.mk.injEq] at hre
        obtain ⟨rfl, rfl, rfl⟩ := hre
        have HBD := Aside0.mk hbd
        clear hbd
        go_wp2_with (go_at_call 38; (refine (next_bad (Mv M u6) g rs _ (.inl HM.out) HS.out HBY.out (by omega) (by omega) HBD.out).mono ?_; rintro e w5 ⟨rfl, hs5, hx5⟩; have HS5 := Aside0.mk hs5; have HX5 := Aside0.mk hx5; obtain ⟨A6, c6, hb6, _, _⟩ := hs5; have hq1 : w5.cell? ⟨g, 1, none⟩ = some (.bool true) := (blk_cell hb6 1).trans rfl; clear hb6; have hgl : g < w5.heap.size := isStream_lt HS5.out; clear hx5))
        go_ret2
        have HO7 := HXX.out HX5.out; obtain ⟨A7, c7, e7, hc7, hr7⟩ := HO7.row (fun k hk hm => absurd (HO7.base_le k hk) (Nat.not_le.2 (HMB.out k hm))); exact ⟨_, rfl, IsRow.step (by rw [← HF.out, List.append_nil]; exact ⟨A7, c7, e7, hc7, hr7⟩) ((Ext.refl _ _).alloc _), isStream_grow HS5.out ((Ext.refl _ _).alloc _) (fun k hk => .inl (.inl hk)) (by obtain ⟨_, _, h1, _⟩ := HS5.out; exact (blk_alloc h1 _).trans h1.symm), (HE.out.trans HX5.out).alloc _⟩
      rw [if_neg hbd] at hre
      by_cases hsh : (rs.length : Int) < 6 + wd rs 4
      · rw [if_pos hsh] at hre
        simp only [Prod.mk.injEq] at hre
        obtain ⟨rfl, rfl, rfl⟩ := hre
        have HST : Aside0 (rs.length < 6 ∨ (¬ bad rs ∧ (rs.length : Int) < 6 + wd rs 4)) := ⟨(.inr ⟨hbd, hsh⟩)⟩
        go_wp2_with (go_at_call 38; (refine (next_stop (Mv M u6) g rs _ (.inl HM.out) HS.out HBY.out (by omega) HST.out).mono ?_; rintro e w5 ⟨rfl, hs5, hx5⟩; have HS5 := Aside0.mk hs5; have HX5 := Aside0.mk hx5; obtain ⟨A6, c6, hb6, _, _⟩ := hs5; have hq1 : w5.cell? ⟨g, 1, none⟩ = some (.bool false) := (blk_cell hb6 1).trans rfl; clear hb6; have hgl : g < w5.heap.size := isStream_lt HS5.out; clear hx5))
        go_ret2
        have HO7 := HXX.out HX5.out; obtain ⟨A7, c7, e7, hc7, hr7⟩ := HO7.row (fun k hk hm => absurd (HO7.base_le k hk) (Nat.not_le.2 (HMB.out k hm))); exact ⟨_, rfl, IsRow.step (by rw [← HF.out, List.append_nil]; exact ⟨A7, c7, e7, hc7, hr7⟩) ((Ext.refl _ _).alloc _), isStream_grow HS5.out ((Ext.refl _ _).alloc _) (fun k hk => .inl (.inl hk)) (by obtain ⟨_, _, h1, _⟩ := HS5.out; exact (blk_alloc h1 _).trans h1.symm), (HE.out.trans HX5.out).alloc _⟩
      rw [if_neg hsh] at hre
      simp only [Prod.mk.injEq] at hre
      obtain ⟨hft, hrr⟩ := hre
      have e0 : wd rs 2 = 0 := Classical.byContradiction fun a => hbd (.inl a)
      have e1 : ¬ wd rs 4 < 2 := fun a => hbd (.inr (.inl a))
      have e2 : ¬ 254 < wd rs 4 := fun a => hbd (.inr (.inr a))
      have HN := Aside0.mk (fun W5 (hh : IsStream (Mv M u6) W5 g rs false) => next_full (Mv M u6) g rs W5 (.inl HM.out) hh HBY.out (by omega) (by omega) e0 (by omega) (by omega) (by omega))
      have hrl : (restOf rs).length + 8 ≤ rs.length := by unfold restOf; rw [List.length_drop]; omega
      have HRB : Aside0 (Bytes (restOf rs)) := ⟨fun x hx => HBY.out x (List.mem_of_mem_drop hx)⟩
      have HFT : Aside0 (out ++ ⟨wd rs 0, rd rs 6, pduOf rs⟩ :: (allF k1 (restOf rs)).1 = fs) := ⟨by rw [hft]; exact HF.out⟩
      have HRR : Aside0 (allF k1 (restOf rs) = ((allF k1 (restOf rs)).1, r, br)) := ⟨by rw [← hrr]⟩
      clear hft hrr hbd hsh e0 e1 e2 h6 HF
      generalize (allF k1 (restOf rs)).1 = f1 at HFT HRR
      generalize wd rs 0 = t_ at HN HFT
      generalize rd rs 6 = u_ at HN HFT
      generalize pduOf rs = p_ at HN HFT
      generalize restOf rs = r_ at HN HRB HRR hrl
      go_wp2_with (first | (go_at_call 38; (refine (HN.out _ HS.out).mono ?_; rintro e w5 ⟨A5, c5, rfl, hc5, hv5, hs5, hx5⟩; have HC5 := Aside0.mk hc5; have HV5 := Aside0.mk hv5; have HS5 := Aside0.mk hs5; have HX5 := Aside0.mk hx5; have HO5 := Aside0.mk (HXX.out hx5); have hz5 := hx5.size; clear hc5 hv5 hs5 hx5 HO HS)) | ((with_reducible refine gate_builtin (b := .append) (xs := #[.tmp 34, .tmp 36]) rfl ?_); at_builtin; (refine ev_append PZ.k37 (M := M) w.heap.size rfl (.tmp 34) (.tmp 36) 45 37 (.agg #[(.int .i64 0), (.int .i64 0), (.slice none 0 0)]) 40 rfl Try.underlying45 info37 rfl (by decide) (by decide) u6 out ⟨t_, u_, p_⟩ [.int .i64 t_, .int .i64 u_, .slice A5 p_.length c5] rfl ?ax (HO5.out.below (below_alloc (Below.refl _ _) _)) ?ap (Below.refl _ _) ?aS (by omega) ?_; (case ax => first | rfl | (go_simp; done) | (go_simp; rfl)); (case ap => exact ⟨fun w2 h2 => PZ.k37_mk w2 ⟨t_, u_, p_⟩ HC5.out (HV5.out.at_ _ (((Ext.refl _ _).alloc _).trans h2))⟩); (case aS => have := HE.out.size; simp; omega); intro v6 w6 HO6 HB6 hg6 hat6; have HO6 := Aside0.mk HO6; have hne : some g ≠ u6.ownBlock := (fun e => hown.out g e.symm rfl); have hgl := isStream_lt HS5.out; have HS6 : Aside0 (IsStream (Mv M v6) w6 g r_ false) := ⟨isStream_grow (isStream_below HS5.out (below_alloc (Below.refl _ _) _)) (Ext.of_grown hg6) (Mv_grow (w1 := w6) hat6) (hg6.block g (by simp; omega) hne)⟩; have HE6 : Aside0 (Ext (fun k => k = g) w w6) := ⟨((HE.out.trans HX5.out).alloc _).grown hg6 (fun k hk => .inr (HO5.out.base_le k hk))⟩; clear HB6 hg6 hat6 hne hgl HO5 HS5)))
      go_roundg k1
      case measure => have := HKK.out; omega
      case rel => exact ⟨out ++ [⟨t_, u_, p_⟩], f1, r_, HRR, ⟨by rw [List.append_assoc]; exact HFT.out⟩, HRB, by omega, by omega, by rw [List.length_append, List.length_singleton]; omega, ⟨by have := HKK.out; omega⟩, HO6, HS6, HE6⟩
end Go.Proofs.Ytabjlanomebonaa.StrB
end

section
namespace Go.Proofs.Ytabjlanomebonaa.StrC
open Go.RowKit Go.Proofs.YtabjlanomebonaaW.PrintWords Go.Proofs.YtabjlanomebonaaW.PrintLast Go.Proofs.YtabjlanomebonaaW.PrintMore Go.Proofs.Ytabjlanomebonaa.Core Go.Proofs.Ytabjlanomebonaa.Ext Go.Proofs.Ytabjlanomebonaa.ExtG
set_option linter.unusedVariables false
set_option linter.unusedSimpArgs false
set_option maxHeartbeats 8000000 in
set_option maxRecDepth 100000 in
theorem same_true (A0 A1 : Option Addr) (c0 c1 : Nat) (ls : List PZ.S37) (w : World) (H0 : Aside0 (Kd.C PZ.k37 w A0 ls.length ls)) (H1 : Aside0 (Kd.C PZ.k37 w A1 ls.length ls)) :
    Calls Try.prog 28 #[.slice A0 ls.length c0, .slice A1 ls.length c1] w fun e w' => e = .returned (.bool true) ∧ Drawn0 w w' := by
  have hm := H0.out.2.1
  have hne : ((ls.length : Int) != (ls.length : Int)) = false := by simp
  go_enter Try.func28, Try.ntmps28
  go_wp2
  go_loopw [5] (fun v5 wr => ∃ k : Nat, k ≤ ls.length ∧ v5 = .int .i64 k ∧ Aside0 (Drawn0 w wr)) (fun v5 _ => ls.length - (intOf v5).toNat)
  case atStart => exact ⟨0, Nat.zero_le _, rfl, ⟨Drawn0.refl _⟩⟩
  case round =>
    obtain ⟨k, hk, rfl, ⟨⟨n, rfl⟩⟩⟩ := hrel
    by_cases hlt : k < ls.length
    · obtain ⟨ad, A, c, rfl, hx0, hx1, hx2, hl0, hc0⟩ := PZ.at_T37 H0.out (k : Int) (by omega) (by omega)
      obtain ⟨ad1, A', c', rfl, hy0, hy1, hy2, hl1, hc1⟩ := PZ.at_T37 H1.out (k : Int) (by omega) (by omega)
      rw [Int.toNat_natCast] at hx0 hx1 hx2 hy0 hy1 hy2
      generalize PZ.rd_T37 ls (k : Int) = x at hx0 hx1 hx2 hy0 hy1 hy2 hl0 hl1 hc0 hc1
      obtain ⟨t, u, p⟩ := x
      simp only at hx0 hx1 hx2 hy0 hy1 hy2 hl0 hl1 hc0 hc1
      have hs0 : ∀ m, Sem.run Try.prog (convert 22 9 (.slice A p.length c)) (w.drewN m) = .ok (.string (strOfNums p)) (w.drewN m) := fun m => string_of_reads (P := Try.prog) (c := c) Try.underlying22 Try.underlying5 Try.underlying9 (Kd.reads_of_C (Kd.C_drewN hc0 m))
      have hs1 : ∀ m, Sem.run Try.prog (convert 22 9 (.slice A' p.length c')) (w.drewN m) = .ok (.string (strOfNums p)) (w.drewN m) := fun m => string_of_reads (P := Try.prog) (c := c') Try.underlying22 Try.underlying5 Try.underlying9 (Kd.reads_of_C (Kd.C_drewN hc1 m))
      have hq : ((strOfNums p).toList == (strOfNums p).toList) = true := by simp
      have ht : (t != t) = false := by simp
      have hu : (u != u) = false := by simp
      clear hc0 hc1 hl0 hl1
      go_wp2
      go_quiet (fail)
      go_wp2
      go_roundw
      case rel => exact ⟨k + 1, by omega, by go_num, ⟨Drawn0.step (Drawn0.refl _) _⟩⟩
      case measure => simp [intOf]; omega
    · go_wp2
      go_ret
      exact ⟨rfl, Drawn0.step (Drawn0.refl _) _⟩
theorem OwnE_empty {α : Type} (d : Kd α) (M : Nat → Prop) (e : TypeId) (base : Nat) {W : World} {g : Nat} (hg : W.heap[g]? = some (.cells #[] e (0, 0))) (hb : base ≤ g) : OwnE d M e base W (.slice (some ⟨g, 0, none⟩) 0 0) [] :=
  ⟨[], ⟨by simp, .inr ⟨g, 0, #[], rfl, hb, hg, Nat.le_refl _, by simp [maxLen], by simp, by simp⟩⟩, Reps.none _ _⟩
end Go.Proofs.Ytabjlanomebonaa.StrC
end

section
namespace Go.Proofs.Ytabjlanomebonaa.PB
open Go.RowKit Go.Proofs.YtabjlanomebonaaW.PrintWords Go.Proofs.YtabjlanomebonaaW.PrintLast Go.Proofs.YtabjlanomebonaaW.PrintMore
attribute [local go_sem] max2_int min2_int max_two min_two max_three min_three max_four min_four   
set_option linter.unusedVariables false
set_option linter.unusedSimpArgs false
open Go.Proofs.Ytabjlanomebonaa.Ext Go.Proofs.Ytabjlanomebonaa.ExtC
def errW : Option Int → Value
  | none => .nilIface
  | some c => .iface 0 (.int .i64 c)
theorem errW_none : errW none = .nilIface := rfl
theorem errW_some (c : Int) : errW (some c) = .iface 0 (.int .i64 c) := rfl
theorem info5 : (Try.prog.info? 5).map (fun i => (i.zero, i.size, i.bytes)) = some (some (.int .u8 0), 1, 1) := by kernel_rfl
structure S37 where
  f0 : Int
  f1 : Int
  f2 : (List Int)
def z37 : S37 := ⟨(0 : Int), (0 : Int), ([] : List Int)⟩
def k37 : Kd S37 := Kd.iso (Kd.pair (Kd.int .i64) (Kd.pair (Kd.int .i64) (Kd.slice 5 (Kd.int .u8)))) (fun x : S37 => (x.f0, x.f1, x.f2))
theorem k37_open {w : World} {x : S37} {cs : List Value} (h : k37.K w x cs) : ∃ A2 c2, cs = [.int .i64 x.f0, .int .i64 x.f1, .slice A2 x.f2.length c2] ∧ x.f2.length ≤ c2 ∧ (Kd.int .u8).C w A2 x.f2.length x.f2 := by
  obtain ⟨_, _, rfl, rfl, ⟨_, _, rfl, rfl, ⟨A2, c2, rfl, l2, g2⟩⟩⟩ := h
  exact ⟨A2, c2, rfl, l2, g2⟩
theorem k37_mk (w : World) (x : S37) {A2 : Option Addr} {c2 : Nat} (l2 : x.f2.length ≤ c2) (g2 : (Kd.int .u8).C w A2 x.f2.length x.f2) : k37.K w x [.int .i64 x.f0, .int .i64 x.f1, .slice A2 x.f2.length c2] := ⟨[.int .i64 x.f0], [.int .i64 x.f1, .slice A2 x.f2.length c2], rfl, rfl, ⟨[.int .i64 x.f1], [.slice A2 x.f2.length c2], rfl, rfl, ⟨A2, c2, rfl, l2, g2⟩⟩⟩
def rd_T37 (xs : List S37) (i : Int) : S37 := xs.getD i.toNat z37
theorem at_T37 {w : World} {A : Option Addr} {n : Nat} {xs : List S37} (h : Kd.C k37 w A n xs) (i : Int) (h0 : 0 ≤ i) (h1 : i < n) : ∃ ad A2 c2, A = some ad ∧ w.cell? (ad.add (i.toNat * 3)) = some (.int .i64 (rd_T37 xs i).f0) ∧ w.cell? ⟨(ad.add (i.toNat * 3)).block, (ad.add (i.toNat * 3)).off + 1, none⟩ = some (.int .i64 (rd_T37 xs i).f1) ∧ w.cell? ⟨(ad.add (i.toNat * 3)).block, (ad.add (i.toNat * 3)).off + 2, none⟩ = some (.slice A2 (rd_T37 xs i).f2.length c2) ∧ (rd_T37 xs i).f2.length ≤ c2 ∧ (Kd.int .u8).C w A2 (rd_T37 xs i).f2.length (rd_T37 xs i).f2 := by
  obtain ⟨ad, c, e, _, hK, hc0⟩ := Kd.C_get h z37 i h0 h1
  have hc : ∀ j u, c[j]? = some u → w.cell? (ad.add (i.toNat * 3 + j)) = some u := hc0
  obtain ⟨A2, c2, rfl, l2, g2⟩ := k37_open hK
  exact ⟨ad, A2, c2, e, hc 0 _ rfl, by rw [← add_field _ _ 1 (by omega)]; exact hc 1 _ rfl, by rw [← add_field _ _ 2 (by omega)]; exact hc 2 _ rfl, l2, g2⟩
end Go.Proofs.Ytabjlanomebonaa.PB
end

section
namespace Go.Proofs.Ytabjlanomebonaa.PB
open Go.RowKit Go.Proofs.YtabjlanomebonaaW.PrintWords Go.Proofs.YtabjlanomebonaaW.PrintLast Go.Proofs.YtabjlanomebonaaW.PrintMore
attribute [local go_sem] max2_int min2_int max_two min_two max_three min_three max_four min_four   
set_option linter.unusedVariables false
set_option linter.unusedSimpArgs false
open Go.Proofs.Ytabjlanomebonaa.Ext Go.Proofs.Ytabjlanomebonaa.ExtC
def basculeref01_Number.f (l0 : List Int) : Option (Int) := if 0 < (l0.length : Int) then (if 1 < (l0.length : Int) then (some (wrap64 ((wrap64 (256 * (wrap64 (rd l0 0)))) + (wrap64 (rd l0 1))))) else (none)) else (none)
set_option maxHeartbeats 8000000 in
set_option maxRecDepth 100000 in
theorem basculeref01_Number.calls (A0 : Option Addr) (c0 : Nat) (l0 : List Int) (r : Int) (w : World) (hr0 : Kd.C (Kd.int .u8) w A0 l0.length l0) (hc0 : l0.length ≤ c0) (h : basculeref01_Number.f l0 = some r) :
    Calls Try.prog 39 #[.slice A0 l0.length c0] w fun e w' => e = .returned (.int .i64 r) ∧ Drawn0 w w' := by
  have HR0 := Aside0.mk hr0
  have HC0 := Aside0.mk hc0
  clear hr0 hc0
  have H : (if 0 < (l0.length : Int) then (if 1 < (l0.length : Int) then (some (wrap64 ((wrap64 (256 * (wrap64 (rd l0 0)))) + (wrap64 (rd l0 1))))) else (none)) else (none)) = some r := h
  clear h
  by_cases c2 : 0 < (l0.length : Int)
  · rw [if_pos c2] at H
    have c2b0 : decide (0 < (l0.length : Int)) = true := decide_eq_true c2
    have c2b1 : decide (0 < l0.length) = true := decide_eq_true (by omega)
    clear c2
    by_cases c3 : 1 < (l0.length : Int)
    · rw [if_pos c3] at H
      have c3b0 : decide (1 < (l0.length : Int)) = true := decide_eq_true c3
      have c3b1 : decide (1 < l0.length) = true := decide_eq_true (by omega)
      clear c3
      obtain rfl := Option.some.inj H
      have p202 : 0 ≤ (0 : Int) := (by omega)
      have q202 : 0 < (l0.length : Int) := of_decide_eq_true (by first | (with_reducible assumption) | assumption)
      obtain ⟨ad202, e202, hx202_0⟩ := Kd.at_int HR0.out 0 p202 q202
      cases e202
      have qi202 : (0 < l0.length) = True := eq_true (by omega)
      (try rw [show ((0 : Int)).toNat = 0 from rfl] at hx202_0)
      (try rw [Addr.add_zero'] at hx202_0)
      replace p202 := eq_true p202
      replace q202 := eq_true q202
      have p203 : 0 ≤ (1 : Int) := (by omega)
      have q203 : 1 < (l0.length : Int) := of_decide_eq_true (by first | (with_reducible assumption) | assumption)
      obtain ⟨ad203, e203, hx203_0⟩ := Kd.at_int HR0.out 1 p203 q203
      obtain rfl : ad202 = ad203 := (by injection e203)
      (try simp only [show (1 : Int).toNat = 1 from rfl, Nat.reduceMul, Nat.reduceEqDiff, Go.Addr.add, ↓reduceIte] at hx203_0)
      have qi203 : (1 < l0.length) = True := eq_true (by omega)
      (try rw [show ((1 : Int)).toNat = 1 from rfl] at hx203_0)
      replace p203 := eq_true p203
      replace q203 := eq_true q203
      go_enter Try.func39, Try.ntmps39
      go_wp2
      repeat (go_quiet (fail); try go_wp2)
      go_ret
      exact ⟨by first | rfl | (simp; done) | (simp [*]; done), by repeat (first | exact Drawn0.refl _ | apply Drawn0.step)⟩
    · rw [if_neg c3] at H
      exact absurd H (by simp)
  · rw [if_neg c2] at H
    exact absurd H (by simp)
end Go.Proofs.Ytabjlanomebonaa.PB
end

section
namespace Go.Proofs.Ytabjlanomebonaa.Core
open Go.RowKit Go.Proofs.YtabjlanomebonaaW.PrintWords Go.Proofs.YtabjlanomebonaaW.PrintLast Go.Proofs.YtabjlanomebonaaW.PrintMore
set_option linter.unusedVariables false
section
variable {P : Program} {ops : Array Oper} {o : Oper} {a : Act} {Q : Exit → Act → World → Prop} {Kc : Act → World → Prop} {α : Type}
theorem ev_append_step (d : Kd α) {M : Nat → Prop} {w0 W : World} (base : Nat) (hw : Region.wanted o (yielded ops a.tmps) = true) (s x : Operand) (t e : TypeId) (z : Value) (bytes : Nat)
    (ho : o.op = .call { callee := .builtin .append, args := #[s, x], argTypes := #[t, t] })
    (ht : P.underlying t = some (.slice e)) (hinfo : (P.info? e).map (fun i => (i.zero, i.size, i.bytes)) = some (some z, d.sz, bytes)) (hz : z.cells.size = d.sz) (hs0 : 0 < d.sz) (hb0 : 0 < bytes)
    (v : Value) (xs : List α) (p : α) (ys : List Value) (hs : a.eval s = v) (hx : a.eval x = .slice (some ⟨W.heap.size, 0, none⟩) 1 1)
    (HO : OwnE d M e base W v xs) (hp : Ever (Mv M v) W (fun W => d.K W p ys)) (HB : Below base w0 W) (hbase : base ≤ W.heap.size) (hl : (xs.length + 1) * bytes ≤ 140737488355328)
    (h : ∀ v1 w1, OwnE d M e base w1 v1 (xs ++ [p]) → Below base w0 w1 → W.grownBy w1 v.ownBlock → (v1.ownBlock = v.ownBlock ∨ ∃ b, v1.ownBlock = some b ∧ W.heap.size ≤ b) → Kc (a.put o.dst v1) w1) :
    if Region.wanted o (yielded ops a.tmps) = true then Oper.wp P o a (W.alloc (.cells ys.toArray e)) Kc Q else Kc (a.put o.dst undef) (W.alloc (.cells ys.toArray e)) := by
  obtain ⟨inner, hown, hr⟩ := HO
  refine step_append_cells base hw s x t e z d.sz bytes ho ht hinfo hz hs0 hb0 v xs.length inner ys hs hx (d.K_len hp.now) (d.K_one hp.now) hown HB hbase hl (fun v1 w1 h1 h2 h3 h4 => ?_)
  have hE : Ext (Mv M v) W w1 := Ext.of_grown h3
  refine h v1 w1 ⟨inner ++ ys, by rw [List.length_append, List.length_singleton]; exact h1, ?_⟩ h2 h3 h4
  exact (hr.imp_ (fun _ _ k => k.grow hE (Mv_grow (w1 := w1) h4))).snoc (hp.grow hE (Mv_grow (w1 := w1) h4)) (d.K_len hp.now)
end
end Go.Proofs.Ytabjlanomebonaa.Core
end

section
namespace Go.Proofs.Ytabjlanomebonaa.PB
open Go.RowKit Go.Proofs.YtabjlanomebonaaW.PrintWords Go.Proofs.YtabjlanomebonaaW.PrintLast Go.Proofs.YtabjlanomebonaaW.PrintMore
attribute [local go_sem] max2_int min2_int max_two min_two max_three min_three max_four min_four   
set_option linter.unusedVariables false
set_option linter.unusedSimpArgs false
open Go.Proofs.Ytabjlanomebonaa.Ext Go.Proofs.Ytabjlanomebonaa.ExtC
def wire_Put.f (l0 : List Int) (a1 : Int) : Option (List Int × Int) := if a1 < 0 then (some (([] : List Int), 1)) else (if a1 > 65535 then (some (([] : List Int), 1)) else ((wire_behind.f l0 2).bind fun t147 => ((some (([(a1 / 256) % 256, (a1) % 256] : List Int) : List Int)).bind fun y150 => (if t147.length + y150.length < 140737488355328 then (some ((t147 ++ y150), 0)) else (none)))))
set_option maxHeartbeats 8000000 in
set_option maxRecDepth 100000 in
theorem wire_Put.calls (A0 : Option Addr) (c0 : Nat) (l0 : List Int) (a1 : Int) (r1 : List Int) (r2 : Int) (w : World) (hr0 : Kd.C (Kd.int .u8) w A0 l0.length l0) (hc0 : l0.length ≤ c0) (h : wire_Put.f l0 a1 = some (r1, r2)) :
    Calls Try.prog 35 #[.slice A0 l0.length c0, .int .i64 a1] w fun e w' => ∃ v0_ : Value, e = .returned (.tuple #[v0_, .int .i64 r2]) ∧ Kd.R (Kd.int .u8) 5 w' w.heap.size (fun _ => True) v0_ r1 ∧ Below w.heap.size w w' := by
  have HR0 := Aside0.mk hr0
  have HC0 := Aside0.mk hc0
  clear hr0 hc0
  have HB := Aside0.mk (Below.refl w.heap.size w)
  have H : (if a1 < 0 then (some (([] : List Int), 1)) else (if a1 > 65535 then (some (([] : List Int), 1)) else ((wire_behind.f l0 2).bind fun t147 => ((some (([(a1 / 256) % 256, (a1) % 256] : List Int) : List Int)).bind fun y150 => (if t147.length + y150.length < 140737488355328 then (some ((t147 ++ y150), 0)) else (none)))))) = some (r1, r2) := h
  clear h
  by_cases c3 : a1 < 0
  · rw [if_pos c3] at H
    have c3b0 : decide (a1 < 0) = true := decide_eq_true c3
    clear c3
    simp only [Option.some.injEq, Prod.mk.injEq] at H
    obtain ⟨rfl, rfl⟩ := H
    go_enter Try.func35, Try.ntmps35
    go_wp2
    go_ret2
    exact ⟨_, by first | rfl | (simp [errW_none, errW_some] <;> rfl) | (simp [*, errW_none, errW_some] <;> rfl), by first | exact Kd.R_nil _ _ _ _ _ | exact Kd.N_nil _ _ _ _ _ | exact Kd.V_nil _ _ _ _ _ | exact Kd.Q_nil _ _ _ _ _ | exact Kd.S_nil _ _ _ _ _, by repeat (first | (with_reducible first | exact HB.out | apply below_alloc | apply pw_below_drewN | apply below_drew1) | exact HB.out)⟩
  · rw [if_neg c3] at H
    have c3b0 : decide (a1 < 0) = false := decide_eq_false c3
    clear c3
    by_cases c4 : a1 > 65535
    · rw [if_pos c4] at H
      have c4b0 : decide (65535 < a1) = true := decide_eq_true c4
      clear c4
      simp only [Option.some.injEq, Prod.mk.injEq] at H
      obtain ⟨rfl, rfl⟩ := H
      go_enter Try.func35, Try.ntmps35
      go_wp2
      go_ret2
      exact ⟨_, by first | rfl | (simp [errW_none, errW_some] <;> rfl) | (simp [*, errW_none, errW_some] <;> rfl), by first | exact Kd.R_nil _ _ _ _ _ | exact Kd.N_nil _ _ _ _ _ | exact Kd.V_nil _ _ _ _ _ | exact Kd.Q_nil _ _ _ _ _ | exact Kd.S_nil _ _ _ _ _, by repeat (first | (with_reducible first | exact HB.out | apply below_alloc | apply pw_below_drewN | apply below_drew1) | exact HB.out)⟩
    · rw [if_neg c4] at H
      have c4b0 : decide (65535 < a1) = false := decide_eq_false c4
      clear c4
      replace H := Option.bind_eq_some_iff.mp H
      obtain ⟨t147, A50, H⟩ := H
      replace H : ((some (([(a1 / 256) % 256, (a1) % 256] : List Int) : List Int)).bind fun y150 => (if t147.length + y150.length < 140737488355328 then (some ((t147 ++ y150), 0)) else (none))) = some (r1, r2) := H
      have A5 := Aside0.mk A50
      clear A50
      obtain ⟨y150, hy150⟩ : ∃ y_ : List Int, y_ = (([(a1 / 256) % 256, (a1) % 256] : List Int)) := ⟨_, rfl⟩
      replace H : (if t147.length + y150.length < 140737488355328 then (some ((t147 ++ y150), 0)) else (none)) = some (r1, r2) := by first | (rw [hy150]; with_reducible exact H) | (have H2_ := (Option.bind_some _ _).symm.trans H; rw [hy150]; with_reducible exact H2_) | (have H2_ := (Option.bind_some _ _).symm.trans H; with_reducible exact H2_) | with_reducible exact H | (rw [hy150]; exact H) | exact H
      have Ny150 := Aside0.mk hy150
      clear hy150
      by_cases c6 : t147.length + y150.length < 140737488355328
      · rw [if_pos c6] at H
        have LMc6 := Aside0.mk c6
        clear c6
        obtain ⟨y153, hy153⟩ : ∃ y_ : List Int, y_ = (t147 ++ y150) := ⟨_, rfl⟩
        replace H : (some (y153, 0)) = some (r1, r2) := by first | (rw [hy153]; with_reducible exact H) | (have H2_ := (Option.bind_some _ _).symm.trans H; rw [hy153]; with_reducible exact H2_) | (have H2_ := (Option.bind_some _ _).symm.trans H; with_reducible exact H2_) | with_reducible exact H | (rw [hy153]; exact H) | exact H
        have Ny153 := Aside0.mk hy153
        clear hy153
        simp only [Option.some.injEq, Prod.mk.injEq] at H
        obtain ⟨rfl, rfl⟩ := H
        go_enter Try.func35, Try.ntmps35
        go_wp2_with (first | ((with_reducible refine gate_callee (f := 45) rfl ?_); refine goesL_ (some 13) rfl rfl Try.func45 (by kernel_rfl) rfl #[.slice A0 l0.length c0, .int .i64 2] rfl (by (try simp only [List.map_toArray, List.map_cons, List.map_nil]); first | done | rfl | (simp only [List.length_drop, List.length_take]; rfl)) ?_; (with_reducible refine (wire_behind.calls _ _ l0 2 t147 _ ?side1 ?side2 A5.out).mono ?_); (case side1 => repeat (first | exact HR0.out | (with_reducible refine Kd.C_alloc ?_ _) | (with_reducible refine Kd.C_drewN ?_ _) | (with_reducible refine Kd.C_drew ?_))); (case side2 => exact HC0.out); rintro e w7 ⟨v148, rfl, ho0, hb⟩; refine ⟨_, rfl, ?_⟩; have n0_ := Aside0.mk (Kd.R_lower ho0 (below_size (by repeat (first | (with_reducible first | exact HB.out | apply below_alloc | apply pw_below_drewN | apply below_drew1) | exact HB.out)))); have n1_ := Aside0.mk (below_step (by repeat (first | (with_reducible first | exact HB.out | apply below_alloc | apply pw_below_drewN | apply below_drew1) | exact HB.out)) hb); clear HB; have HO149 := n0_; have HB := n1_; clear n0_ n1_; (try clear hb); (try clear hb2); (try clear hk); (try clear hi); (try clear ho0)) | ((with_reducible refine gate_dst (N := 19) rfl ?_); refine Kd.R_lit (Kd.int .u8) _ 5 ?hg (N := 19) ?hd (xs := ([(a1 / 256) % 256, (a1) % 256] : List Int)) (inner := [.int .u8 ((a1 / 256) % 256), .int .u8 ((a1) % 256)]) (ok := fun _ => True) (okp := fun _ => True) ?hr ?hp (fun _ hk => hk) trivial (Below.refl _ _) (Nat.le_refl _) (by simp) ?_; (case hd => rfl); (case hg => rfl); (case hr => first | (go_simp; done) | (go_simp; rfl)); (case hp => exact (Reps.one (show Kd.M (Kd.int .u8) _ _ _ ((a1 / 256) % 256) [.int .u8 ((a1 / 256) % 256)] from rfl) (Reps.one (show Kd.M (Kd.int .u8) _ _ _ ((a1) % 256) [.int .u8 ((a1) % 256)] from rfl) (Reps.none _ _)))); intro v151 w8 ho9 hb hg_ hnew_; clear hg_ hnew_; (first | rw [← Ny150.out] at ho9 | (simp only [Int.reduceToNat] at ho9; rw [← Ny150.out] at ho9)); have n0_ := Aside0.mk (Kd.R_elder' (by (with_reducible repeat (first | apply Kd.R_alloc | apply Kd.R_drewN | apply Kd.R_drew)); exact HO149.out) (Kd.R_base ho9) hb); have n1_ := Aside0.mk (Kd.R_lower (Kd.R_new' ho9 (Kd.R_lt (by (with_reducible repeat (first | apply Kd.R_alloc | apply Kd.R_drewN | apply Kd.R_drew)); exact HO149.out))) (below_size (by repeat (first | (with_reducible first | exact HB.out | apply below_alloc | apply pw_below_drewN | apply below_drew1) | exact HB.out)))); have n2_ := Aside0.mk (below_step (by repeat (first | (with_reducible first | exact HB.out | apply below_alloc | apply pw_below_drewN | apply below_drew1) | exact HB.out)) hb); clear HO149; clear HB; have HO149 := n0_; have HO152 := n1_; have HB := n2_; clear n0_ n1_ n2_; clear hb ho9; obtain ⟨Ao11, co11, eo11⟩ := Kd.R_slice HO152.out; subst eo11) | ((with_reducible refine gate_builtin (b := .append) (xs := #[.tmp 13, .tmp 19]) rfl ?_); at_builtin; refine Kd.R_append_rows (Kd.int .u8) (w0 := w) w.heap.size rfl (.tmp 13) (.tmp 19) 22 5 (.int .u8 0) 1 rfl Try.underlying22 info5 rfl (by decide) (by omega) v148 t147 y150 _ _ _ (fun k_ => some k_ ≠ (.slice Ao11 y150.length co11 : Value).ownBlock) (fun _ => False) rfl rfl ?aO ?aR (fun _ _ h => h) (fun _ h => h.elim) ?aF ?aB ?aS ?aL ?_; (case aR => repeat (first | exact (Kd.R_reads' HO152.out).2.2 | (with_reducible refine Kd.C_alloc ?_ _) | (with_reducible refine Kd.C_drewN ?_ _) | (with_reducible refine Kd.C_drew ?_))); (case aB => exact (by repeat (first | (with_reducible first | exact HB.out | apply below_alloc | apply pw_below_drewN | apply below_drew1) | exact HB.out))); (case aF => exact (fun k_ hk => Kd.fresh' (Kd.R_lt (by (with_reducible repeat (first | apply Kd.R_alloc | apply Kd.R_drewN | apply Kd.R_drew)); exact HO152.out)) k_ hk)); (case aO => exact (by (with_reducible repeat (first | apply Kd.R_alloc | apply Kd.R_drewN | apply Kd.R_drew)); exact Kd.R_mono HO149.out (fun _ hk => hk.2))); (case aS => exact (below_size (by repeat (first | (with_reducible first | exact HB.out | apply below_alloc | apply pw_below_drewN | apply below_drew1) | exact HB.out)))); (case aL => have := LMc6.out; omega); intro v154 w10 ho hb hg hat; rw [← Ny153.out] at ho; have n0_ := Aside0.mk (Kd.R_after (ok := (fun _ => True)) (by (with_reducible repeat (first | apply Kd.R_alloc | apply Kd.R_drewN | apply Kd.R_drew)); exact HO152.out) hg hat); have n1_ := Aside0.mk (hb); have n2_ := Aside0.mk (ho); clear HO152; clear HB; clear HO149; have HO152 := n0_; have HB := n1_; have HO155 := n2_; clear n0_ n1_ n2_; clear ho hb hg hat))
        go_ret2
        exact ⟨_, by first | rfl | (simp [errW_none, errW_some] <;> rfl) | (simp [*, errW_none, errW_some] <;> rfl), by (with_reducible repeat (first | apply Kd.R_alloc | apply Kd.R_drewN | apply Kd.R_drew)); exact Kd.R_mono HO155.out (fun _ hk => trivial), by repeat (first | (with_reducible first | exact HB.out | apply below_alloc | apply pw_below_drewN | apply below_drew1) | exact HB.out)⟩
      · rw [if_neg c6] at H
        exact absurd H (by simp)
end Go.Proofs.Ytabjlanomebonaa.PB
end

section
namespace Go.Proofs.Ytabjlanomebonaa.PB
open Go.RowKit Go.Proofs.YtabjlanomebonaaW.PrintWords Go.Proofs.YtabjlanomebonaaW.PrintLast Go.Proofs.YtabjlanomebonaaW.PrintMore
attribute [local go_sem] max2_int min2_int max_two min_two max_three min_three max_four min_four   
set_option linter.unusedVariables false
set_option linter.unusedSimpArgs false
open Go.Proofs.Ytabjlanomebonaa.Ext Go.Proofs.Ytabjlanomebonaa.ExtC
def mbap_Frame.j0 : Nat → List Int → Bool → Int → Int → List Int → Option (List Int × Int)
  | 0, _, _, _, _, _ => none
  | k + 1, x4, x35, x157000, x157001, x157002 => if x35 = true then (some (([] : List Int), 1)) else ((wire_Put.f x4 0).bind fun bt161 => ((wire_Put.f bt161.1 (wrap64 ((x157002.length : Int) + 1))).bind fun bt165 => (if bt165.1.length < 140737488355328 then ((some (bt165.1 ++ [(x157001) % 256] : List Int)).bind fun y169 => (if y169.length + x157002.length < 140737488355328 then (some ((y169 ++ x157002), 0)) else (none))) else (none))))
def mbap_Frame.f (k : Nat) (a0_0 : Int) (a0_1 : Int) (l0_2 : List Int) : Option (List Int × Int) := (wire_Put.f ([] : List Int) a0_0).bind fun bt157 => (if bt157.2 = 0 then (if a0_1 < 0 then (mbap_Frame.j0 k bt157.1 true a0_0 a0_1 l0_2) else (if a0_1 > 255 then (mbap_Frame.j0 k bt157.1 true a0_0 a0_1 l0_2) else (if (l0_2.length : Int) < 1 then (mbap_Frame.j0 k bt157.1 true a0_0 a0_1 l0_2) else (mbap_Frame.j0 k bt157.1 (decide ((l0_2.length : Int) > 253)) a0_0 a0_1 l0_2)))) else (mbap_Frame.j0 k bt157.1 true a0_0 a0_1 l0_2))
theorem mbap_Frame.mono_l : ∀ k, (∀ y0 y1 y2 y3 y4, LeO (mbap_Frame.j0 k y0 y1 y2 y3 y4) (mbap_Frame.j0 (k + 1) y0 y1 y2 y3 y4))
  | 0 => fun _ _ _ _ _ r h => by simp [mbap_Frame.j0] at h
  | k + 1 => by
    have ih0 := mbap_Frame.mono_l k
    · intro y0 y1 y2 y3 y4
      unfold mbap_Frame.j0
      repeat' first
      | (with_reducible exact ih0 _ _ _ _ _)
      | (with_reducible exact LeO.refl _)
      | (with_reducible exact LeO.none _)
      | (with_reducible refine LeO.ite ?_ ?_)
      | (with_reducible refine LeO.bind ?_ (fun _ => ?_))
      | exact ih0 _ _ _ _ _
      | exact LeO.none _
      | refine LeO.ite ?_ ?_
      | refine LeO.bind ?_ (fun _ => ?_)
theorem mbap_Frame.mono : ∀ a0 a1 a2 k, LeO (mbap_Frame.f k a0 a1 a2) (mbap_Frame.f (k + 1) a0 a1 a2) := by
  intro a0 a1 a2 k
  have ih0 := mbap_Frame.mono_l k
  unfold mbap_Frame.f
  repeat' first
      | (with_reducible exact ih0 _ _ _ _ _)
      | (with_reducible exact LeO.refl _)
      | (with_reducible exact LeO.none _)
      | (with_reducible refine LeO.ite ?_ ?_)
      | (with_reducible refine LeO.bind ?_ (fun _ => ?_))
      | exact ih0 _ _ _ _ _
      | exact LeO.none _
      | refine LeO.ite ?_ ?_
      | refine LeO.bind ?_ (fun _ => ?_)
def mbap_Frame.T6 : Bool × List (List Nat × List Nat) := (true, [([], []), ([], []), ([1], [1]), ([2], [2]), ([3], [3]), ([0, 4], [0, 4]), ([], []), ([6], [6]), ([5, 7, 5], [5, 7]), ([8, 8, 0, 1, 2, 3, 4, 5, 6, 7, 8], [8]), ([9, 0, 1, 2, 3, 4, 5, 6, 7, 8, 9], [])])
def mbap_Frame.B6 : List Nat := [0, 0, 2, 6, 14, 31, 0, 64, 255, 511, 1023]
theorem mbap_Frame.tab6 : rtab .any (opsOf Try.f18 6) = mbap_Frame.T6 := by kernel_rfl
theorem mbap_Frame.bits6 : waitsOk mbap_Frame.T6.2 mbap_Frame.B6 = true := by kernel_rfl
set_option maxHeartbeats 8000000 in
set_option maxRecDepth 100000 in
theorem mbap_Frame.calls (k : Nat) (a0_0 : Int) (a0_1 : Int) (A0_2 : Option Addr) (c0_2 : Nat) (l0_2 : List Int) (r1 : List Int) (r2 : Int) (w : World) (hr0_2 : Kd.C (Kd.int .u8) w A0_2 l0_2.length l0_2) (hc0_2 : l0_2.length ≤ c0_2) (h : mbap_Frame.f k a0_0 a0_1 l0_2 = some (r1, r2)) :
    Calls Try.prog 18 #[.agg #[.int .i64 a0_0, .int .i64 a0_1, .slice A0_2 l0_2.length c0_2]] w fun e w' => ∃ v0_ : Value, e = .returned (.tuple #[v0_, .int .i64 r2]) ∧ Kd.R (Kd.int .u8) 5 w' w.heap.size (fun _ => True) v0_ r1 ∧ Below w.heap.size w w' := by
  have hu37 := Try.underlying37
  have HR0_2 := Aside0.mk hr0_2
  have HC0_2 := Aside0.mk hc0_2
  clear hr0_2 hc0_2
  have HB := Aside0.mk (Below.refl w.heap.size w)
  have H : ((wire_Put.f ([] : List Int) a0_0).bind fun bt157 => (if bt157.2 = 0 then (if a0_1 < 0 then (mbap_Frame.j0 k bt157.1 true a0_0 a0_1 l0_2) else (if a0_1 > 255 then (mbap_Frame.j0 k bt157.1 true a0_0 a0_1 l0_2) else (if (l0_2.length : Int) < 1 then (mbap_Frame.j0 k bt157.1 true a0_0 a0_1 l0_2) else (mbap_Frame.j0 k bt157.1 (decide ((l0_2.length : Int) > 253)) a0_0 a0_1 l0_2)))) else (mbap_Frame.j0 k bt157.1 true a0_0 a0_1 l0_2))) = some (r1, r2) := h
  clear h
  replace H := Option.bind_eq_some_iff.mp H
  obtain ⟨⟨t157, t158⟩, A20, H⟩ := H
  replace H : (if t158 = 0 then (if a0_1 < 0 then (mbap_Frame.j0 k t157 true a0_0 a0_1 l0_2) else (if a0_1 > 255 then (mbap_Frame.j0 k t157 true a0_0 a0_1 l0_2) else (if (l0_2.length : Int) < 1 then (mbap_Frame.j0 k t157 true a0_0 a0_1 l0_2) else (mbap_Frame.j0 k t157 (decide ((l0_2.length : Int) > 253)) a0_0 a0_1 l0_2)))) else (mbap_Frame.j0 k t157 true a0_0 a0_1 l0_2)) = some (r1, r2) := H
  have A2 := Aside0.mk A20
  clear A20
  have HC3 := Aside0.mk H
  clear H
  go_enter Try.func18, Try.ntmps18
  go_upto_region 2 with (first | ((with_reducible refine gate_dst (N := 1) rfl ?_); (try (refine gate_guard (by rfl) ?_; dsimp only)); refine box_event ?hg (N := 1) ?hd (cs := #[.int .i64 a0_0, .int .i64 a0_1, .slice A0_2 l0_2.length c0_2]) (t := 37) ?hr ?_; (case hd => rfl); (case hg => rfl); (case hr => first | (go_simp; done) | (go_simp; rfl)); intro gb156 hg w4 hbox hb; have n0_ := Aside0.mk (below_step (by repeat (first | (with_reducible first | exact HB.out | apply below_alloc | apply pw_below_drewN | apply below_drew1) | exact HB.out)) hb); have n1_ := Aside0.mk (hbox); have n2_ := Aside0.mk ((by rw [hg]; exact (below_size (by repeat (first | (with_reducible first | exact HB.out | apply below_alloc | apply pw_below_drewN | apply below_drew1) | exact HB.out))) : w.heap.size ≤ gb156)); have n3_ := Aside0.mk ((by rw [hg]; exact (below_size (by repeat (first | (with_reducible first | exact HB.out | apply below_alloc | apply pw_below_drewN | apply below_drew1) | exact HB.out))) : w.heap.size ≤ gb156)); clear HB; have HB := n0_; have BK156 := n1_; have GW156 := n2_; have GE156 := n3_; clear n0_ n1_ n2_ n3_; clear hb hbox hg; have hcz5_0 : w4.cell? ⟨gb156, 0, none⟩ = some (.int .i64 a0_0) := (blk_cell BK156.out 0).trans rfl; have hcz5_1 : w4.cell? ⟨gb156, 1, none⟩ = some (.int .i64 a0_1) := (blk_cell BK156.out 1).trans rfl; have hcz5_2 : w4.cell? ⟨gb156, 2, none⟩ = some (.slice A0_2 l0_2.length c0_2) := (blk_cell BK156.out 2).trans rfl; have hfz5_0 := blk_frozen BK156.out 0; have hfz5_1 := blk_frozen BK156.out 1; have hfz5_2 := blk_frozen BK156.out 2) | ((with_reducible refine gate_callee (f := 35) rfl ?_); refine goesL_ (some 9) rfl rfl Try.func35 (by kernel_rfl) rfl #[.slice none 0 0, .int .i64 a0_0] rfl (by (try simp only [List.map_toArray, List.map_cons, List.map_nil]); first | done | rfl | (simp only [List.length_drop, List.length_take]; rfl)) ?_; (refine (wire_Put.calls _ _ ([] : List Int) a0_0 t157 t158 _ ?side1 ?side2 A2.out).mono ?_); (case side1 => exact Kd.C_nil _ _); (case side2 => exact Nat.le_refl _); rintro e w6 ⟨v159, rfl, ho0, hb⟩; refine ⟨_, rfl, ?_⟩; have n0_ := Aside0.mk (Kd.R_lower ho0 (below_size (by repeat (first | (with_reducible first | exact HB.out | apply below_alloc | apply pw_below_drewN | apply below_drew1 | refine below_set ?_ GE156.out) | exact HB.out)))); have n1_ := Aside0.mk (blk_below (g := gb156) (o := .cells #[.int .i64 a0_0, .int .i64 a0_1, .slice A0_2 l0_2.length c0_2] 37 (0, 0)) (by (with_reducible repeat (first | refine blk_drewN ?_ _ | refine blk_drew ?_ | refine blk_alloc ?_ _)); exact BK156.out) hb); have n2_ := Aside0.mk (below_step (by repeat (first | (with_reducible first | exact HB.out | apply below_alloc | apply pw_below_drewN | apply below_drew1 | refine below_set ?_ GE156.out) | exact HB.out)) hb); clear BK156; clear HB; have HO160 := n0_; have BK156 := n1_; have HB := n2_; clear n0_ n1_ n2_; (try clear hb); (try clear hb2); (try clear hk); (try clear hi); (try clear ho0)))
  (try simp only [Act.put, List.setIfInBounds_toArray, List.set_cons_zero, List.set_cons_succ])
  go_cut [35] (fun v35 wc => ∃ (kq : Nat) (x35_2 : Bool), v35 = .bool x35_2 ∧ Aside0 (mbap_Frame.j0 kq t157 x35_2 a0_0 a0_1 l0_2 = some (r1, r2)) ∧ Aside0 (kq ≤ k) ∧ Aside0 (Kd.R (Kd.int .u8) 5 wc w.heap.size (fun _ => True) v159 t157) ∧ Aside0 (wc.heap[gb156]? = some (.cells #[.int .i64 a0_0, .int .i64 a0_1, (.slice A0_2 l0_2.length c0_2)] 37 (0, 0))) ∧ Aside0 (Below w.heap.size w wc))
  case first =>
    have H := HC3.out
    clear HC3
    by_cases c7 : t158 = 0
    · rw [if_pos c7] at H
      have c7b0 : (t158 == 0) = true := beq_iff_eq.mpr c7
      have c7b1 : (t158 != 0) = false := bne_eq_false_iff_eq.mpr c7
      clear c7
      (first | rw [c7b0] | (simp only [i64_w, i32_w]; rw [c7b0]) | skip)
      by_cases c8 : a0_1 < 0
      · rw [if_pos c8] at H
        have c8b0 : decide (a0_1 < 0) = true := decide_eq_true c8
        clear c8
        have H' := Aside0.mk H
        clear H
        have hcz9_0 : w6.cell? ⟨gb156, 0, none⟩ = some (.int .i64 a0_0) := (blk_cell BK156.out 0).trans rfl
        have hcz9_1 : w6.cell? ⟨gb156, 1, none⟩ = some (.int .i64 a0_1) := (blk_cell BK156.out 1).trans rfl
        have hcz9_2 : w6.cell? ⟨gb156, 2, none⟩ = some (.slice A0_2 l0_2.length c0_2) := (blk_cell BK156.out 2).trans rfl
        have hfz9_0 := blk_frozen BK156.out 0
        have hfz9_1 := blk_frozen BK156.out 1
        have hfz9_2 := blk_frozen BK156.out 2
        go_wp2
        go_meet
        case rel => exact ⟨_, (true), (by first | rfl | (simp; done) | (simp [*]; done)), H', ⟨by first | omega | exact Nat.le_refl _⟩, ⟨by (with_reducible repeat (first | apply Kd.R_alloc | apply Kd.R_drewN | apply Kd.R_drew)); exact HO160.out⟩, ⟨by (with_reducible repeat (first | refine blk_drewN ?_ _ | refine blk_drew ?_ | refine blk_alloc ?_ _)); exact BK156.out⟩, ⟨by repeat (first | (with_reducible first | exact HB.out | apply below_alloc | apply pw_below_drewN | apply below_drew1 | refine below_set ?_ GE156.out) | exact HB.out)⟩⟩
      · rw [if_neg c8] at H
        have c8b0 : decide (a0_1 < 0) = false := decide_eq_false c8
        clear c8
        by_cases c10 : a0_1 > 255
        · rw [if_pos c10] at H
          have c10b0 : decide (255 < a0_1) = true := decide_eq_true c10
          clear c10
          have H' := Aside0.mk H
          clear H
          have hcz11_0 : w6.cell? ⟨gb156, 0, none⟩ = some (.int .i64 a0_0) := (blk_cell BK156.out 0).trans rfl
          have hcz11_1 : w6.cell? ⟨gb156, 1, none⟩ = some (.int .i64 a0_1) := (blk_cell BK156.out 1).trans rfl
          have hcz11_2 : w6.cell? ⟨gb156, 2, none⟩ = some (.slice A0_2 l0_2.length c0_2) := (blk_cell BK156.out 2).trans rfl
          have hfz11_0 := blk_frozen BK156.out 0
          have hfz11_1 := blk_frozen BK156.out 1
          have hfz11_2 := blk_frozen BK156.out 2
          go_wp2
          go_meet
          case rel => exact ⟨_, (true), (by first | rfl | (simp; done) | (simp [*]; done)), H', ⟨by first | omega | exact Nat.le_refl _⟩, ⟨by (with_reducible repeat (first | apply Kd.R_alloc | apply Kd.R_drewN | apply Kd.R_drew)); exact HO160.out⟩, ⟨by (with_reducible repeat (first | refine blk_drewN ?_ _ | refine blk_drew ?_ | refine blk_alloc ?_ _)); exact BK156.out⟩, ⟨by repeat (first | (with_reducible first | exact HB.out | apply below_alloc | apply pw_below_drewN | apply below_drew1 | refine below_set ?_ GE156.out) | exact HB.out)⟩⟩
        · rw [if_neg c10] at H
          have c10b0 : decide (255 < a0_1) = false := decide_eq_false c10
          clear c10
          by_cases c12 : (l0_2.length : Int) < 1
          · rw [if_pos c12] at H
            have c12b0 : decide ((l0_2.length : Int) < 1) = true := decide_eq_true c12
            have c12b1 : decide (l0_2.length < 1) = true := decide_eq_true (by omega)
            clear c12
            have H' := Aside0.mk H
            clear H
            have hcz13_0 : w6.cell? ⟨gb156, 0, none⟩ = some (.int .i64 a0_0) := (blk_cell BK156.out 0).trans rfl
            have hcz13_1 : w6.cell? ⟨gb156, 1, none⟩ = some (.int .i64 a0_1) := (blk_cell BK156.out 1).trans rfl
            have hcz13_2 : w6.cell? ⟨gb156, 2, none⟩ = some (.slice A0_2 l0_2.length c0_2) := (blk_cell BK156.out 2).trans rfl
            have hfz13_0 := blk_frozen BK156.out 0
            have hfz13_1 := blk_frozen BK156.out 1
            have hfz13_2 := blk_frozen BK156.out 2
            go_wp2
            go_meet
            case rel => exact ⟨_, (true), (by first | rfl | (simp; done) | (simp [*]; done)), H', ⟨by first | omega | exact Nat.le_refl _⟩, ⟨by (with_reducible repeat (first | apply Kd.R_alloc | apply Kd.R_drewN | apply Kd.R_drew)); exact HO160.out⟩, ⟨by (with_reducible repeat (first | refine blk_drewN ?_ _ | refine blk_drew ?_ | refine blk_alloc ?_ _)); exact BK156.out⟩, ⟨by repeat (first | (with_reducible first | exact HB.out | apply below_alloc | apply pw_below_drewN | apply below_drew1 | refine below_set ?_ GE156.out) | exact HB.out)⟩⟩
          · rw [if_neg c12] at H
            have c12b0 : decide ((l0_2.length : Int) < 1) = false := decide_eq_false c12
            have c12b1 : decide (l0_2.length < 1) = false := decide_eq_false (by omega)
            clear c12
            have H' := Aside0.mk H
            clear H
            have hcz14_0 : w6.cell? ⟨gb156, 0, none⟩ = some (.int .i64 a0_0) := (blk_cell BK156.out 0).trans rfl
            have hcz14_1 : w6.cell? ⟨gb156, 1, none⟩ = some (.int .i64 a0_1) := (blk_cell BK156.out 1).trans rfl
            have hcz14_2 : w6.cell? ⟨gb156, 2, none⟩ = some (.slice A0_2 l0_2.length c0_2) := (blk_cell BK156.out 2).trans rfl
            have hfz14_0 := blk_frozen BK156.out 0
            have hfz14_1 := blk_frozen BK156.out 1
            have hfz14_2 := blk_frozen BK156.out 2
            go_wp2
            go_meet
            case rel => exact ⟨_, (decide ((l0_2.length : Int) > 253)), (by first | rfl | (simp; done) | (simp [*]; done)), H', ⟨by first | omega | exact Nat.le_refl _⟩, ⟨by (with_reducible repeat (first | apply Kd.R_alloc | apply Kd.R_drewN | apply Kd.R_drew)); exact HO160.out⟩, ⟨by (with_reducible repeat (first | refine blk_drewN ?_ _ | refine blk_drew ?_ | refine blk_alloc ?_ _)); exact BK156.out⟩, ⟨by repeat (first | (with_reducible first | exact HB.out | apply below_alloc | apply pw_below_drewN | apply below_drew1 | refine below_set ?_ GE156.out) | exact HB.out)⟩⟩
    · rw [if_neg c7] at H
      have c7b0 : (t158 == 0) = false := beq_eq_false_iff_ne.mpr c7
      have c7b1 : (t158 != 0) = true := bne_iff_ne.mpr c7
      (first | rw [c7b0] | (simp only [i64_w, i32_w]; rw [c7b0]) | skip)
      have H' := Aside0.mk H
      clear H
      go_wp2
      go_meet
      case rel => exact ⟨_, (true), (by first | rfl | (simp; done) | (simp [*]; done)), H', ⟨by first | omega | exact Nat.le_refl _⟩, ⟨by (with_reducible repeat (first | apply Kd.R_alloc | apply Kd.R_drewN | apply Kd.R_drew)); exact HO160.out⟩, ⟨by (with_reducible repeat (first | refine blk_drewN ?_ _ | refine blk_drew ?_ | refine blk_alloc ?_ _)); exact BK156.out⟩, ⟨by repeat (first | (with_reducible first | exact HB.out | apply below_alloc | apply pw_below_drewN | apply below_drew1 | refine below_set ?_ GE156.out) | exact HB.out)⟩⟩
  case rest =>
    clear HC3
    try clear c1
    try clear p2
    try clear c3
    try clear c7
    try clear c7b0
    try clear c7b1
    try clear c8
    try clear c8b0
    try clear c10
    try clear c10b0
    try clear c12
    try clear c12b0
    try clear c12b1
    try clear hcz11_0
    try clear hcz11_1
    try clear hcz11_2
    try clear hcz13_0
    try clear hcz13_1
    try clear hcz13_2
    try clear hcz14_0
    try clear hcz14_1
    try clear hcz14_2
    try clear hcz5_0
    try clear hcz5_1
    try clear hcz5_2
    try clear hcz9_0
    try clear hcz9_1
    try clear hcz9_2
    try clear hfz11_0
    try clear hfz11_1
    try clear hfz11_2
    try clear hfz13_0
    try clear hfz13_1
    try clear hfz13_2
    try clear hfz14_0
    try clear hfz14_1
    try clear hfz14_2
    try clear hfz5_0
    try clear hfz5_1
    try clear hfz5_2
    try clear hfz9_0
    try clear hfz9_1
    try clear hfz9_2
    obtain ⟨kq, x35_2, rfl, HA, HJ2, HO_4, BK156, HB⟩ := hcut
    cases kq with
    | zero => exact absurd HA.out (by simp [mbap_Frame.j0])
    | succ kj2 =>
      have H := HA.out
      clear HA
      simp only [mbap_Frame.j0] at H
      by_cases c15 : x35_2 = true
      · subst c15
        have H1 : (some (([] : List Int), 1)) = some (r1, r2) := by rw [if_pos rfl] at H; exact H
        clear H
        have H := H1
        clear H1
        simp only [Option.some.injEq, Prod.mk.injEq] at H
        obtain ⟨rfl, rfl⟩ := H
        go_wp2
        go_ret2
        exact ⟨_, by first | rfl | (simp [errW_none, errW_some] <;> rfl) | (simp [*, errW_none, errW_some] <;> rfl), by first | exact Kd.R_nil _ _ _ _ _ | exact Kd.N_nil _ _ _ _ _ | exact Kd.V_nil _ _ _ _ _ | exact Kd.Q_nil _ _ _ _ _ | exact Kd.S_nil _ _ _ _ _, by repeat (first | (with_reducible first | exact HB.out | apply below_alloc | apply pw_below_drewN | apply below_drew1 | refine below_set ?_ GE156.out) | exact HB.out)⟩
      · replace c15 := Bool.eq_false_iff.mpr c15
        subst c15
        have H1 : ((wire_Put.f t157 0).bind fun bt161 => ((wire_Put.f bt161.1 (wrap64 ((l0_2.length : Int) + 1))).bind fun bt165 => (if bt165.1.length < 140737488355328 then ((some (bt165.1 ++ [(a0_1) % 256] : List Int)).bind fun y169 => (if y169.length + l0_2.length < 140737488355328 then (some ((y169 ++ l0_2), 0)) else (none))) else (none)))) = some (r1, r2) := by rw [if_neg (show ¬ (false = true) by decide)] at H; exact H
        clear H
        have H := H1
        clear H1
        replace H := Option.bind_eq_some_iff.mp H
        obtain ⟨⟨t161, t162⟩, A160, H⟩ := H
        replace H : ((wire_Put.f t161 (wrap64 ((l0_2.length : Int) + 1))).bind fun bt165 => (if bt165.1.length < 140737488355328 then ((some (bt165.1 ++ [(a0_1) % 256] : List Int)).bind fun y169 => (if y169.length + l0_2.length < 140737488355328 then (some ((y169 ++ l0_2), 0)) else (none))) else (none))) = some (r1, r2) := H
        have A16 := Aside0.mk A160
        clear A160
        replace H := Option.bind_eq_some_iff.mp H
        obtain ⟨⟨t165, t166⟩, A170, H⟩ := H
        replace H : (if t165.length < 140737488355328 then ((some (t165 ++ [(a0_1) % 256] : List Int)).bind fun y169 => (if y169.length + l0_2.length < 140737488355328 then (some ((y169 ++ l0_2), 0)) else (none))) else (none)) = some (r1, r2) := H
        have A17 := Aside0.mk A170
        clear A170
        by_cases c18 : t165.length < 140737488355328
        · rw [if_pos c18] at H
          have LMc18 := Aside0.mk c18
          clear c18
          obtain ⟨y169, hy169⟩ : ∃ y_ : List Int, y_ = (t165 ++ [(a0_1) % 256]) := ⟨_, rfl⟩
          replace H : (if y169.length + l0_2.length < 140737488355328 then (some ((y169 ++ l0_2), 0)) else (none)) = some (r1, r2) := by first | (rw [hy169]; with_reducible exact H) | (have H2_ := (Option.bind_some _ _).symm.trans H; rw [hy169]; with_reducible exact H2_) | (have H2_ := (Option.bind_some _ _).symm.trans H; with_reducible exact H2_) | with_reducible exact H | (rw [hy169]; exact H) | exact H
          have Ny169 := Aside0.mk hy169
          clear hy169
          by_cases c19 : y169.length + l0_2.length < 140737488355328
          · rw [if_pos c19] at H
            have LMc19 := Aside0.mk c19
            clear c19
            obtain ⟨y172, hy172⟩ : ∃ y_ : List Int, y_ = (y169 ++ l0_2) := ⟨_, rfl⟩
            replace H : (some (y172, 0)) = some (r1, r2) := by first | (rw [hy172]; with_reducible exact H) | (have H2_ := (Option.bind_some _ _).symm.trans H; rw [hy172]; with_reducible exact H2_) | (have H2_ := (Option.bind_some _ _).symm.trans H; with_reducible exact H2_) | with_reducible exact H | (rw [hy172]; exact H) | exact H
            have Ny172 := Aside0.mk hy172
            clear hy172
            simp only [Option.some.injEq, Prod.mk.injEq] at H
            obtain ⟨rfl, rfl⟩ := H
            obtain ⟨Ao20, co20, eo20⟩ := Kd.R_slice HO_4.out
            subst eo20
            try go_wp2_with (first | ((with_reducible refine gate_callee (f := 35) rfl ?_); refine goesL_ (some 38) rfl rfl Try.func35 (by kernel_rfl) rfl #[.slice Ao20 t157.length co20, .int .i64 0] rfl (by (try simp only [List.map_toArray, List.map_cons, List.map_nil]); first | done | rfl | (simp only [List.length_drop, List.length_take]; rfl)) ?_; (with_reducible refine (wire_Put.calls _ _ t157 0 t161 t162 _ ?side1 ?side2 A16.out).mono ?_); (case side1 => repeat (first | exact (Kd.R_reads' HO_4.out).2.2 | (with_reducible refine Kd.C_alloc ?_ _) | (with_reducible refine Kd.C_drewN ?_ _) | (with_reducible refine Kd.C_drew ?_))); (case side2 => exact (Kd.R_reads' HO_4.out).2.1); rintro e w21 ⟨v163, rfl, ho0, hb⟩; refine ⟨_, rfl, ?_⟩; have n0_ := Aside0.mk (Kd.R_elder' (by (with_reducible repeat (first | apply Kd.R_alloc | apply Kd.R_drewN | apply Kd.R_drew)); exact HO_4.out) (Kd.R_base ho0) hb); have n1_ := Aside0.mk (Kd.R_lower (Kd.R_new' ho0 (Kd.R_lt (by (with_reducible repeat (first | apply Kd.R_alloc | apply Kd.R_drewN | apply Kd.R_drew)); exact HO_4.out))) (below_size (by repeat (first | (with_reducible first | exact HB.out | apply below_alloc | apply pw_below_drewN | apply below_drew1 | refine below_set ?_ GE156.out) | exact HB.out)))); have n2_ := Aside0.mk (blk_below (g := gb156) (o := .cells #[.int .i64 a0_0, .int .i64 a0_1, .slice A0_2 l0_2.length c0_2] 37 (0, 0)) (by (with_reducible repeat (first | refine blk_drewN ?_ _ | refine blk_drew ?_ | refine blk_alloc ?_ _)); exact BK156.out) hb); have n3_ := Aside0.mk (below_step (by repeat (first | (with_reducible first | exact HB.out | apply below_alloc | apply pw_below_drewN | apply below_drew1 | refine below_set ?_ GE156.out) | exact HB.out)) hb); clear HO_4; clear BK156; clear HB; have HO_4 := n0_; have HO164 := n1_; have BK156 := n2_; have HB := n3_; clear n0_ n1_ n2_ n3_; (try clear hb); (try clear hb2); (try clear hk); (try clear hi); (try clear ho0); have hcz22_0 : w21.cell? ⟨gb156, 0, none⟩ = some (.int .i64 a0_0) := (blk_cell BK156.out 0).trans rfl; have hcz22_1 : w21.cell? ⟨gb156, 1, none⟩ = some (.int .i64 a0_1) := (blk_cell BK156.out 1).trans rfl; have hcz22_2 : w21.cell? ⟨gb156, 2, none⟩ = some (.slice A0_2 l0_2.length c0_2) := (blk_cell BK156.out 2).trans rfl; have hfz22_0 := blk_frozen BK156.out 0; have hfz22_1 := blk_frozen BK156.out 1; have hfz22_2 := blk_frozen BK156.out 2; obtain ⟨Ao23, co23, eo23⟩ := Kd.R_slice HO164.out; subst eo23) | ((with_reducible refine gate_callee (f := 35) rfl ?_); refine goesL_ (some 47) rfl rfl Try.func35 (by kernel_rfl) rfl #[.slice Ao23 t161.length co23, .int .i64 (wrap64 ((l0_2.length : Int) + 1))] rfl (by (try simp only [List.map_toArray, List.map_cons, List.map_nil]); first | done | rfl | (simp only [List.length_drop, List.length_take]; rfl)) ?_; (with_reducible refine (wire_Put.calls _ _ t161 (wrap64 ((l0_2.length : Int) + 1)) t165 t166 _ ?side1 ?side2 A17.out).mono ?_); (case side1 => repeat (first | exact (Kd.R_reads' HO164.out).2.2 | (with_reducible refine Kd.C_alloc ?_ _) | (with_reducible refine Kd.C_drewN ?_ _) | (with_reducible refine Kd.C_drew ?_))); (case side2 => exact (Kd.R_reads' HO164.out).2.1); rintro e w24 ⟨v167, rfl, ho0, hb⟩; refine ⟨_, rfl, ?_⟩; have n0_ := Aside0.mk (Kd.R_elder' (by (with_reducible repeat (first | apply Kd.R_alloc | apply Kd.R_drewN | apply Kd.R_drew)); exact HO_4.out) (Kd.R_base ho0) hb); have n1_ := Aside0.mk (Kd.R_elder' (by (with_reducible repeat (first | apply Kd.R_alloc | apply Kd.R_drewN | apply Kd.R_drew)); exact HO164.out) (Kd.R_base ho0) hb); have n2_ := Aside0.mk (Kd.R_lower (Kd.R_new' (Kd.R_new' ho0 (Kd.R_lt (by (with_reducible repeat (first | apply Kd.R_alloc | apply Kd.R_drewN | apply Kd.R_drew)); exact HO_4.out))) (Kd.R_lt (by (with_reducible repeat (first | apply Kd.R_alloc | apply Kd.R_drewN | apply Kd.R_drew)); exact HO164.out))) (below_size (by repeat (first | (with_reducible first | exact HB.out | apply below_alloc | apply pw_below_drewN | apply below_drew1 | refine below_set ?_ GE156.out) | exact HB.out)))); have n3_ := Aside0.mk (blk_below (g := gb156) (o := .cells #[.int .i64 a0_0, .int .i64 a0_1, .slice A0_2 l0_2.length c0_2] 37 (0, 0)) (by (with_reducible repeat (first | refine blk_drewN ?_ _ | refine blk_drew ?_ | refine blk_alloc ?_ _)); exact BK156.out) hb); have n4_ := Aside0.mk (below_step (by repeat (first | (with_reducible first | exact HB.out | apply below_alloc | apply pw_below_drewN | apply below_drew1 | refine below_set ?_ GE156.out) | exact HB.out)) hb); clear HO_4; clear HO164; clear BK156; clear HB; have HO_4 := n0_; have HO164 := n1_; have HO168 := n2_; have BK156 := n3_; have HB := n4_; clear n0_ n1_ n2_ n3_ n4_; (try clear hb); (try clear hb2); (try clear hk); (try clear hi); (try clear ho0)))
            have n0_ := Aside0.mk (Kd.R_drew HO_4.out)
            have n1_ := Aside0.mk (Kd.R_drew HO164.out)
            have n2_ := Aside0.mk (Kd.R_drew HO168.out)
            have n3_ := Aside0.mk (blk_drew BK156.out)
            have n4_ := Aside0.mk (below_drew1 HB.out)
            clear HO_4
            clear HO164
            clear HO168
            clear BK156
            clear HB
            have HO_4 := n0_
            have HO164 := n1_
            have HO168 := n2_
            have BK156 := n3_
            have HB := n4_
            clear n0_ n1_ n2_ n3_ n4_
            refine start_ (n := 11) (S := fun w' => w'.cell? ⟨gb156, 0, none⟩ = some (.int .i64 a0_0) ∧ w'.cell? ⟨gb156, 1, none⟩ = some (.int .i64 a0_1) ∧ w'.cell? ⟨gb156, 2, none⟩ = some (.slice A0_2 l0_2.length c0_2)) (ds := []) #[false, false, false, false, false, false, false, false, false, false, false] (by kernel_rfl) rfl rfl ⟨(blk_cell BK156.out 0).trans rfl, (blk_cell BK156.out 1).trans rfl, (blk_cell BK156.out 2).trans rfl⟩ (fun hHeld => ?_); refine with_tabW mbap_Frame.tab6 mbap_Frame.bits6 (fun HT_ HW_ => ?_)
            generalize w24.drew = w25 at HO_4 HO164 HO168 BK156 HB hHeld ⊢
            refine pure_ (i := 0) (N := some 50) (v := ?_) (a' := ?_) #[true, false, false, false, false, false, false, false, false, false, false] rfl rfl (any_of HT_.out (by kernel_rfl)) (fun _ _ _ h => h) (Or.inl ⟨by rfl, ?_⟩) ?_ ?_
            rotate_left
            · intro w'
              go_simp
              with_reducible rfl
            rotate_left
            · simp only [Act.put, List.setIfInBounds_toArray, List.set_cons_zero, List.set_cons_succ, i64_w, i32_w]
              rfl
            refine pure_ (i := 1) (N := some 51) (v := ?_) (a' := ?_) #[true, true, false, false, false, false, false, false, false, false, false] rfl rfl (any_of HT_.out (by kernel_rfl)) (fun _ _ _ h => h) (Or.inl ⟨by rfl, ?_⟩) ?_ ?_
            rotate_left
            · intro w'
              go_simp
              with_reducible rfl
            rotate_left
            · simp only [Act.put, List.setIfInBounds_toArray, List.set_cons_zero, List.set_cons_succ, i64_w, i32_w]
              rfl
            refine pure_ (i := 6) (N := some 56) (v := ?_) (a' := ?_) #[true, true, false, false, false, false, true, false, false, false, false] rfl rfl (any_of HT_.out (by kernel_rfl)) (fun _ _ _ h => h) (Or.inl ⟨by rfl, ?_⟩) ?_ ?_
            rotate_left
            · intro w'
              go_simp
              with_reducible rfl
            rotate_left
            · simp only [Act.put, List.setIfInBounds_toArray, List.set_cons_zero, List.set_cons_succ, i64_w, i32_w]
              rfl
            refine take_ (i := 2) (N := some 52) (v := ?_) (a' := ?_) #[true, true, true, false, false, false, true, false, false, false, false] rfl rfl (take_ofW HT_.out HW_.out (by kernel_rfl)) (fun _ _ _ h => h) (Or.inl ⟨by rfl, ?_⟩) hHeld ?_ ?_
            rotate_left
            · rintro w' ⟨s0, s1, s2⟩
              go_simp
              with_reducible rfl
            rotate_left
            · simp only [Act.put, List.setIfInBounds_toArray, List.set_cons_zero, List.set_cons_succ, i64_w, i32_w]
              rfl
            refine pure_ (i := 3) (N := some 53) (v := ?_) (a' := ?_) #[true, true, true, true, false, false, true, false, false, false, false] rfl rfl (any_of HT_.out (by kernel_rfl)) (fun _ _ _ h => h) (Or.inl ⟨by rfl, ?_⟩) ?_ ?_
            rotate_left
            · intro w'
              go_simp
              with_reducible rfl
            rotate_left
            · simp only [Act.put, List.setIfInBounds_toArray, List.set_cons_zero, List.set_cons_succ, i64_w, i32_w]
              rfl
            refine take_ (i := 7) (N := some 57) (v := ?_) (a' := ?_) #[true, true, true, true, false, false, true, true, false, false, false] rfl rfl (take_ofW HT_.out HW_.out (by kernel_rfl)) (fun _ _ _ h => h) (Or.inl ⟨by rfl, ?_⟩) hHeld ?_ ?_
            rotate_left
            · rintro w' ⟨s0, s1, s2⟩
              go_simp
              with_reducible rfl
            rotate_left
            · simp only [Act.put, List.setIfInBounds_toArray, List.set_cons_zero, List.set_cons_succ, i64_w, i32_w]
              rfl
            refine one_ (i := 4) (N := some 54) #[true, true, true, true, true, false, true, true, false, false, false] rfl rfl (one_of HT_.out (by kernel_rfl)) (by decide) (fun K hK => ?_)
            refine value_ (w1 := ?_) (v := ?_) (by rfl) rfl ?_ ?_
            rotate_left 2
            · go_simp
              constructor
              · rfl
              · rfl
            refine hK.out _ _ ⟨(blk_cell (blk_alloc BK156.out _) 0).trans rfl, (blk_cell (blk_alloc BK156.out _) 1).trans rfl, (blk_cell (blk_alloc BK156.out _) 2).trans rfl⟩ (fun hHeld => ?_)
            clear hK K
            refine norm_ (a' := ?_) ?_ ?_
            rotate_left
            · show Act.put _ (some 54) _ = _
              simp only [Act.put, List.setIfInBounds_toArray, List.set_cons_zero, List.set_cons_succ, i64_w, i32_w]
              rfl
            refine one_ (i := 5) (N := some 55) #[true, true, true, true, true, true, true, true, false, false, false] rfl rfl (one_of HT_.out (by kernel_rfl)) (by decide) (fun K hK => ?_)
            refine Kd.R_append_step (Kd.int .u8) (w0 := w) w.heap.size (by rfl) (.tmp 50) (.tmp 54) 22 5 (.int .u8 0) 1 rfl Try.underlying22 info5 rfl (by decide) (by omega) v167 t165 ((a0_1) % 256) [.int .u8 ((a0_1) % 256)] (fun k_ => some k_ ≠ (.slice Ao20 t157.length co20 : Value).ownBlock ∧ some k_ ≠ (.slice Ao23 t161.length co23 : Value).ownBlock) (fun _ => False) rfl rfl ?aP (fun _ hk => hk.elim) ?aF ?aO ?aB ?aS ?aL ?_
            (case aP => exact rfl)
            (case aB => exact (by repeat (first | (with_reducible first | exact HB.out | apply below_alloc | apply pw_below_drewN | apply below_drew1 | refine below_set ?_ GE156.out) | exact HB.out)))
            (case aF => exact (fun k_ hk => ⟨Kd.fresh' (Kd.R_lt (by (with_reducible repeat (first | apply Kd.R_alloc | apply Kd.R_drewN | apply Kd.R_drew)); exact HO_4.out)) k_ hk, Kd.fresh' (Kd.R_lt (by (with_reducible repeat (first | apply Kd.R_alloc | apply Kd.R_drewN | apply Kd.R_drew)); exact HO164.out)) k_ hk⟩))
            (case aO => exact (by (with_reducible repeat (first | apply Kd.R_alloc | apply Kd.R_drewN | apply Kd.R_drew)); exact Kd.R_mono HO168.out (fun _ hk => ⟨hk.1.2, hk.2⟩)))
            (case aS => exact (below_size (by repeat (first | (with_reducible first | exact HB.out | apply below_alloc | apply pw_below_drewN | apply below_drew1 | refine below_set ?_ GE156.out) | exact HB.out))))
            (case aL => have := LMc18.out; omega)
            intro v170 w26 ho hb hg hat
            rw [← Ny169.out] at ho
            have n0_ := Aside0.mk (Kd.R_after (ok := (fun k_ => some k_ ≠ (.slice Ao23 t161.length co23 : Value).ownBlock)) (by (with_reducible repeat (first | apply Kd.R_alloc | apply Kd.R_drewN | apply Kd.R_drew)); exact Kd.R_mono HO_4.out (fun _ hk => ⟨hk.1.2, hk.2⟩)) hg hat)
            have n1_ := Aside0.mk (blk_grown (g := gb156) (o := .cells #[.int .i64 a0_0, .int .i64 a0_1, .slice A0_2 l0_2.length c0_2] 37 (0, 0)) (by (with_reducible repeat (first | refine blk_drewN ?_ _ | refine blk_drew ?_ | refine blk_alloc ?_ _)); exact BK156.out) hg (Kd.R_ne HO168.out BK156.out (by decide)))
            have n2_ := Aside0.mk (Kd.R_after (ok := (fun k_ => some k_ ≠ (.slice Ao20 t157.length co20 : Value).ownBlock)) (by (with_reducible repeat (first | apply Kd.R_alloc | apply Kd.R_drewN | apply Kd.R_drew)); exact Kd.R_mono HO164.out (fun _ hk => ⟨hk.1.2, hk.2⟩)) hg hat)
            have n3_ := Aside0.mk (hb)
            have n4_ := Aside0.mk (ho)
            clear HO_4
            clear BK156
            clear HO164
            clear HB
            clear HO168
            have HO_4 := n0_
            have BK156 := n1_
            have HO164 := n2_
            have HB := n3_
            have HO171 := n4_
            clear n0_ n1_ n2_ n3_ n4_
            clear ho hb hg hat
            refine hK.out _ _ ⟨(blk_cell BK156.out 0).trans rfl, (blk_cell BK156.out 1).trans rfl, (blk_cell BK156.out 2).trans rfl⟩ (fun hHeld => ?_)
            clear hK K
            refine norm_ (a' := ?_) ?_ ?_
            rotate_left
            · show Act.put _ (some 55) _ = _
              simp only [Act.put, List.setIfInBounds_toArray, List.set_cons_zero, List.set_cons_succ, i64_w, i32_w]
              rfl
            refine one_ (i := 8) (N := some 58) #[true, true, true, true, true, true, true, true, true, false, false] rfl rfl (one_of HT_.out (by kernel_rfl)) (by decide) (fun K hK => ?_)
            refine Kd.R_append_rows_step (Kd.int .u8) (w0 := w) w.heap.size (by rfl) (.tmp 55) (.tmp 57) 22 5 (.int .u8 0) 1 rfl Try.underlying22 info5 rfl (by decide) (by omega) v170 y169 l0_2 _ _ _ (fun k_ => some k_ ≠ (.slice Ao20 t157.length co20 : Value).ownBlock ∧ some k_ ≠ (.slice Ao23 t161.length co23 : Value).ownBlock) (fun _ => False) rfl rfl ?aO ?aR (fun _ _ h => h) (fun _ h => h.elim) ?aF ?aB ?aS ?aL ?_
            (case aR => repeat (first | exact (Kd.C_below HR0_2.out HB.out) | (with_reducible refine Kd.C_alloc ?_ _) | (with_reducible refine Kd.C_drewN ?_ _) | (with_reducible refine Kd.C_drew ?_)))
            (case aB => exact (by repeat (first | (with_reducible first | exact HB.out | apply below_alloc | apply pw_below_drewN | apply below_drew1 | refine below_set ?_ GE156.out) | exact HB.out)))
            (case aF => exact (fun k_ hk => ⟨Kd.fresh' (Kd.R_lt (by (with_reducible repeat (first | apply Kd.R_alloc | apply Kd.R_drewN | apply Kd.R_drew)); exact HO_4.out)) k_ hk, Kd.fresh' (Kd.R_lt (by (with_reducible repeat (first | apply Kd.R_alloc | apply Kd.R_drewN | apply Kd.R_drew)); exact HO164.out)) k_ hk⟩))
            (case aO => exact (by (with_reducible repeat (first | apply Kd.R_alloc | apply Kd.R_drewN | apply Kd.R_drew)); exact HO171.out))
            (case aS => exact (below_size (by repeat (first | (with_reducible first | exact HB.out | apply below_alloc | apply pw_below_drewN | apply below_drew1 | refine below_set ?_ GE156.out) | exact HB.out))))
            (case aL => have := LMc19.out; omega)
            intro v173 w27 ho hb hg hat
            rw [← Ny172.out] at ho
            have n0_ := Aside0.mk (Kd.R_after (ok := (fun k_ => some k_ ≠ (.slice Ao23 t161.length co23 : Value).ownBlock)) (by (with_reducible repeat (first | apply Kd.R_alloc | apply Kd.R_drewN | apply Kd.R_drew)); exact HO_4.out) hg hat)
            have n1_ := Aside0.mk (blk_grown (g := gb156) (o := .cells #[.int .i64 a0_0, .int .i64 a0_1, .slice A0_2 l0_2.length c0_2] 37 (0, 0)) (by (with_reducible repeat (first | refine blk_drewN ?_ _ | refine blk_drew ?_ | refine blk_alloc ?_ _)); exact BK156.out) hg (Kd.R_ne HO171.out BK156.out (by decide)))
            have n2_ := Aside0.mk (Kd.R_after (ok := (fun k_ => some k_ ≠ (.slice Ao20 t157.length co20 : Value).ownBlock)) (by (with_reducible repeat (first | apply Kd.R_alloc | apply Kd.R_drewN | apply Kd.R_drew)); exact HO164.out) hg hat)
            have n3_ := Aside0.mk (hb)
            have n4_ := Aside0.mk (ho)
            clear HO_4
            clear BK156
            clear HO164
            clear HB
            clear HO171
            have HO_4 := n0_
            have BK156 := n1_
            have HO164 := n2_
            have HB := n3_
            have HO174 := n4_
            clear n0_ n1_ n2_ n3_ n4_
            clear ho hb hg hat
            refine hK.out _ _ ⟨(blk_cell BK156.out 0).trans rfl, (blk_cell BK156.out 1).trans rfl, (blk_cell BK156.out 2).trans rfl⟩ (fun hHeld => ?_)
            clear hK K
            refine norm_ (a' := ?_) ?_ ?_
            rotate_left
            · show Act.put _ (some 58) _ = _
              simp only [Act.put, List.setIfInBounds_toArray, List.set_cons_zero, List.set_cons_succ, i64_w, i32_w]
              rfl
            refine pure_ (i := 9) (N := some 2) (v := ?_) (a' := ?_) #[true, true, true, true, true, true, true, true, true, true, false] rfl rfl (any_of HT_.out (by kernel_rfl)) (fun _ _ _ h => h) (Or.inl ⟨by rfl, ?_⟩) ?_ ?_
            rotate_left
            · intro w'
              go_simp
              with_reducible rfl
            rotate_left
            · simp only [Act.put, List.setIfInBounds_toArray, List.set_cons_zero, List.set_cons_succ, i64_w, i32_w]
              rfl
            refine pure_ (i := 10) (N := some 3) (v := ?_) (a' := ?_) #[true, true, true, true, true, true, true, true, true, true, true] rfl rfl (any_of HT_.out (by kernel_rfl)) (fun _ _ _ h => h) (Or.inl ⟨by rfl, ?_⟩) ?_ ?_
            rotate_left
            · intro w'
              go_simp
              with_reducible rfl
            rotate_left
            · simp only [Act.put, List.setIfInBounds_toArray, List.set_cons_zero, List.set_cons_succ, i64_w, i32_w]
              rfl
            refine done_ (done_of HT_.out (by kernel_rfl)) ?_
            try go_wp2
            go_ret2
            exact ⟨_, by first | rfl | (simp [errW_none, errW_some] <;> rfl) | (simp [*, errW_none, errW_some] <;> rfl), by (with_reducible repeat (first | apply Kd.R_alloc | apply Kd.R_drewN | apply Kd.R_drew)); exact Kd.R_mono HO174.out (fun _ hk => trivial), by repeat (first | (with_reducible first | exact HB.out | apply below_alloc | apply pw_below_drewN | apply below_drew1 | refine below_set ?_ GE156.out) | exact HB.out)⟩
          · rw [if_neg c19] at H
            exact absurd H (by simp)
        · rw [if_neg c18] at H
          exact absurd H (by simp)
end Go.Proofs.Ytabjlanomebonaa.PB
end

section
namespace Go.Proofs.Ytabjlanomebonaa.MthF
open Go.RowKit Go.Proofs.YtabjlanomebonaaW.PrintWords Go.Proofs.Ytabjlanomebonaa.ExtC Go.Proofs.Ytabjlanomebonaa.StrA Go.Proofs.Ytabjlanomebonaa.StrB
set_option linter.unusedVariables false
theorem rd_app (a b : List Int) (i : Int) (h0 : 0 ≤ i) (h : i < a.length) : rd (a ++ b) i = rd a i := by
  unfold rd
  rw [List.getD_eq_getElem?_getD, List.getD_eq_getElem?_getD, List.getElem?_append_left (by omega)]
theorem wd_app (a b : List Int) (i : Int) (h0 : 0 ≤ i) (h : i + 2 ≤ a.length) : wd (a ++ b) i = wd a i := by
  unfold wd
  rw [rd_app a b i h0 (by omega), rd_app a b (i + 1) (by omega) (by omega)]
theorem bad_app (a b : List Int) (h : 6 ≤ a.length) : bad (a ++ b) ↔ bad a := by
  unfold bad
  rw [wd_app a b 2 (by omega) (by omega), wd_app a b 4 (by omega) (by omega)]
theorem not_bad {b : List Int} (h : ¬ bad b) : wd b 2 = 0 ∧ 2 ≤ wd b 4 ∧ wd b 4 ≤ 254 :=
  ⟨Classical.byContradiction fun a => h (.inl a), Classical.byContradiction fun a => h (.inr (.inl (by omega))), Classical.byContradiction fun a => h (.inr (.inr (by omega)))⟩
theorem rest_lt {b : List Int} (h6 : ¬ b.length < 6) (h : ¬ bad b) (hs : ¬ (b.length : Int) < 6 + wd b 4) : (restOf b).length + 8 ≤ b.length := by
  have := not_bad h
  unfold restOf
  rw [List.length_drop]
  omega
theorem allF_fuel : ∀ (k k' : Nat) (b : List Int), b.length < k → b.length < k' → allF k b = allF k' b
  | 0, _, _, h, _ => by omega
  | k + 1, 0, _, _, h => by omega
  | k + 1, k' + 1, b, h, h' => by
    unfold allF
    by_cases h6 : b.length < 6
    · rw [if_pos h6, if_pos h6]
    rw [if_neg h6, if_neg h6]
    by_cases hb : bad b
    · rw [if_pos hb, if_pos hb]
    rw [if_neg hb, if_neg hb]
    by_cases hs : (b.length : Int) < 6 + wd b 4
    · rw [if_pos hs, if_pos hs]
    rw [if_neg hs, if_neg hs]
    have := rest_lt h6 hb hs
    rw [allF_fuel k k' (restOf b) (by omega) (by omega)]
theorem full_app {a : List Int} (b : List Int) (h6 : ¬ a.length < 6) (hb : ¬ bad a) (hs : ¬ (a.length : Int) < 6 + wd a 4) :
    pduOf (a ++ b) = pduOf a ∧ restOf (a ++ b) = restOf a ++ b ∧ wd (a ++ b) 0 = wd a 0 ∧ rd (a ++ b) 6 = rd a 6 := by
  have hn := not_bad hb
  have e4 := wd_app a b 4 (by omega) (by omega)
  refine ⟨?_, ?_, wd_app a b 0 (by omega) (by omega), rd_app a b 6 (by omega) (by omega)⟩
  · unfold pduOf
    rw [e4, List.take_append_of_le_length (by omega)]
  · unfold restOf
    rw [e4, List.drop_append_of_le_length (by omega)]
theorem allF_parts : ∀ (k : Nat) (a b : List Int) (f1 : List PZ.S37) (r1 : List Int) (br : Bool), a.length < k → allF k a = (f1, r1, br) →
    (br = true → r1 = [] ∧ ∀ k', a.length + b.length < k' → allF k' (a ++ b) = (f1, [], true)) ∧
    (br = false → r1.length ≤ a.length ∧ ∀ k', a.length + b.length < k' → allF k' (a ++ b) = (f1 ++ (allF k' (r1 ++ b)).1, (allF k' (r1 ++ b)).2))
  | 0, _, _, _, _, _, h, _ => by omega
  | k + 1, a, b, f1, r1, br, h, he => by
    unfold allF at he
    by_cases h6 : a.length < 6
    · rw [if_pos h6] at he
      simp only [Prod.mk.injEq] at he
      obtain ⟨rfl, rfl, rfl⟩ := he
      exact ⟨fun x => by simp at x, fun _ => ⟨Nat.le_refl _, fun k' hk' => by simp⟩⟩
    rw [if_neg h6] at he
    by_cases hb : bad a
    · rw [if_pos hb] at he
      simp only [Prod.mk.injEq] at he
      obtain ⟨rfl, rfl, rfl⟩ := he
      refine ⟨fun _ => ⟨rfl, fun k' hk' => ?_⟩, fun x => by simp at x⟩
      obtain ⟨k', rfl⟩ : ∃ m, k' = m + 1 := ⟨k' - 1, by omega⟩
      unfold allF
      rw [if_neg (by rw [List.length_append]; omega), if_pos ((bad_app a b (by omega)).2 hb)]
    rw [if_neg hb] at he
    by_cases hs : (a.length : Int) < 6 + wd a 4
    · rw [if_pos hs] at he
      simp only [Prod.mk.injEq] at he
      obtain ⟨rfl, rfl, rfl⟩ := he
      exact ⟨fun x => by simp at x, fun _ => ⟨Nat.le_refl _, fun k' hk' => by simp⟩⟩
    rw [if_neg hs] at he
    have hlt := rest_lt h6 hb hs
    obtain ⟨e1, e2, e3, e4⟩ := full_app b h6 hb hs
    have hn := not_bad hb
    have e5 := wd_app a b 4 (by omega) (by omega)
    have hnb : ¬ bad (a ++ b) := fun x => hb ((bad_app a b (by omega)).1 x)
    have hns : ¬ ((a ++ b).length : Int) < 6 + wd (a ++ b) 4 := by rw [List.length_append, e5]; push_cast; omega
    have hn6 : ¬ (a ++ b).length < 6 := by rw [List.length_append]; omega
    have hstep : ∀ k', allF (k' + 1) (a ++ b) = (⟨wd a 0, rd a 6, pduOf a⟩ :: (allF k' (restOf a ++ b)).1, (allF k' (restOf a ++ b)).2) := by
      intro k'
      rw [show allF (k' + 1) (a ++ b) = _ from by unfold allF; rw [if_neg hn6, if_neg hnb, if_neg hns], e1, e2, e3, e4]
    have ih := allF_parts k (restOf a) b (allF k (restOf a)).1 (allF k (restOf a)).2.1 (allF k (restOf a)).2.2 (by omega) rfl
    simp only [Prod.mk.injEq] at he
    obtain ⟨rfl, he2⟩ := he
    have e6 : (allF k (restOf a)).2.1 = r1 := by rw [he2]
    have e7 : (allF k (restOf a)).2.2 = br := by rw [he2]
    rw [e6, e7] at ih
    refine ⟨fun x => ?_, fun x => ?_⟩
    · obtain ⟨i1, i2⟩ := ih.1 x
      refine ⟨i1, fun k' hk' => ?_⟩
      obtain ⟨k', rfl⟩ : ∃ m, k' = m + 1 := ⟨k' - 1, by omega⟩
      rw [hstep, i2 k' (by omega)]
    · obtain ⟨i1, i2⟩ := ih.2 x
      refine ⟨by omega, fun k' hk' => ?_⟩
      obtain ⟨k', rfl⟩ : ∃ m, k' = m + 1 := ⟨k' - 1, by omega⟩
      rw [hstep, i2 k' (by omega), allF_fuel k' (k' + 1) (r1 ++ b) (by rw [List.length_append]; omega) (by rw [List.length_append]; omega)]
      rfl
theorem allF_bytes : ∀ (k : Nat) (a : List Int), Bytes a → Bytes (allF k a).2.1
  | 0, a, h => h
  | k + 1, a, h => by
    unfold allF
    by_cases h6 : a.length < 6
    · rw [if_pos h6]; exact h
    rw [if_neg h6]
    by_cases hb : bad a
    · rw [if_pos hb]; intro x hx; simp at hx
    rw [if_neg hb]
    by_cases hs : (a.length : Int) < 6 + wd a 4
    · rw [if_pos hs]; exact h
    rw [if_neg hs]
    exact allF_bytes k (restOf a) (fun x hx => h x (List.mem_of_mem_drop hx))
end Go.Proofs.Ytabjlanomebonaa.MthF
end

section
namespace Go.Proofs.Ytabjlanomebonaa.MthG
open Go.RowKit Go.Proofs.YtabjlanomebonaaW.PrintWords Go.Proofs.Ytabjlanomebonaa.Ext Go.Proofs.Ytabjlanomebonaa.ExtC Go.Proofs.Ytabjlanomebonaa.StrA Go.Proofs.Ytabjlanomebonaa.StrB Go.Proofs.Ytabjlanomebonaa.PB Go.Proofs.Ytabjlanomebonaa.MthF
set_option linter.unusedVariables false
def mayA (t u : Int) (p : List Int) : Prop := 0 ≤ t ∧ t ≤ 65535 ∧ 0 ≤ u ∧ u ≤ 255 ∧ 1 ≤ p.length ∧ p.length ≤ 253
instance (t u : Int) (p : List Int) : Decidable (mayA t u p) := by unfold mayA; infer_instance
end Go.Proofs.Ytabjlanomebonaa.MthG
end

section
namespace Go.Proofs.Ytabjlanomebonaa.HandAll
open Go.RowKit Go.Proofs.YtabjlanomebonaaW.PrintWords Go.Proofs.YtabjlanomebonaaW.PrintLast Go.Proofs.YtabjlanomebonaaW.PrintMore Go.Proofs.Ytabjlanomebonaa.Core Go.Proofs.Ytabjlanomebonaa.Ext Go.Proofs.Ytabjlanomebonaa.ExtC Go.Proofs.Ytabjlanomebonaa.PB Go.Proofs.Ytabjlanomebonaa.StrA Go.Proofs.Ytabjlanomebonaa.StrB Go.Proofs.Ytabjlanomebonaa.MthF
set_option linter.unusedVariables false
set_option linter.unusedSimpArgs false
theorem number_f {b : List Int} (h : Bytes b) (h2 : 2 ≤ b.length) : basculeref01_Number.f b = some (wd b 0) := by
  have q0 := rd_b h 0; have q1 := rd_b h 1
  unfold basculeref01_Number.f wd
  rw [if_pos (by omega), if_pos (by omega)]
  congr 1
  unfold wrap64
  rw [show (0 : Int) + 1 = 1 from rfl]
  omega
theorem rd_drop (b : List Int) (n i : Nat) : rd (b.drop n) (i : Int) = rd b ((n + i : Nat) : Int) := by
  unfold rd
  rw [List.getD_eq_getElem?_getD, List.getD_eq_getElem?_getD, List.getElem?_drop]
  simp only [Int.toNat_natCast]
theorem wd_at (b : List Int) (n k : Nat) : wd (b.drop n) (k : Int) = wd b ((n + k : Nat) : Int) := by
  unfold wd
  rw [show ((k : Int) + 1) = ((k + 1 : Nat) : Int) from rfl, rd_drop, rd_drop]
  rfl
theorem pdu_cut (b : List Int) (n : Nat) (h : 0 ≤ wd (b.drop n) 4) : pduOf (b.drop n) = (b.take (n + 6 + (wd (b.drop n) 4).toNat)).drop (n + 7) := by
  unfold pduOf
  obtain ⟨k, hk⟩ := Int.eq_ofNat_of_zero_le h
  rw [hk, show ((6 : Int) + (k : Int)).toNat = 6 + k from by omega, Int.toNat_natCast, ← List.drop_drop, List.drop_take (i := n), show n + 6 + k - n = 6 + k from by omega]
theorem rest_cut (b : List Int) (n : Nat) (h : 0 ≤ wd (b.drop n) 4) : restOf (b.drop n) = b.drop (n + (6 + (wd (b.drop n) 4).toNat)) := by
  unfold restOf
  obtain ⟨k, hk⟩ := Int.eq_ofNat_of_zero_le h
  rw [hk, show ((6 : Int) + (k : Int)).toNat = 6 + k from by omega, Int.toNat_natCast, List.drop_drop]
theorem wr_id {z : Int} (h0 : 0 ≤ z) (h1 : z ≤ 1000000000) : wrap64 z = z := by unfold wrap64; omega
theorem cut_facts (b : List Int) (n : Nat) (x : Int) (hl : b.length ≤ 1000000) (hn : n ≤ b.length) (h4 : 2 ≤ x) (h : ¬ ((b.drop n).length : Int) < 6 + x) : wrap64 ((n : Int) + 6) = (n : Int) + 6 ∧ wrap64 ((n : Int) + 7) = (n : Int) + 7 ∧ wrap64 ((n : Int) + 6 + x) = (n : Int) + 6 + x ∧ 0 ≤ (n : Int) + 6 ∧ (n : Int) + 6 < (b.length : Int) ∧ ((n : Int) + 6).toNat < b.length ∧ (n : Int) + 6 + x ≤ (b.length : Int) := by
  rw [List.length_drop] at h
  have e6 : wrap64 ((n : Int) + 6) = (n : Int) + 6 := wr_id (by omega) (by omega)
  exact ⟨e6, wr_id (by omega) (by omega), wr_id (by omega) (by omega), by omega, by omega, by omega, by omega⟩
theorem rd6 (b : List Int) (n : Nat) : rd b ((n : Int) + 6) = rd (b.drop n) 6 := (rd_drop b n 6).symm
theorem cell6 {W : World} {ad : Addr} {b : List Int} {n : Nat} (h : Kd.C (Kd.int .u8) W (some ad) b.length b) (h6 : (n : Int) + 6 < b.length) : W.cell? (ad.add ((n : Int) + 6).toNat) = some (.int .u8 (rd (b.drop n) 6)) := by
  obtain ⟨a_, e_, h_⟩ := Kd.at_int h ((n : Int) + 6) (by omega) h6
  have e := Option.some.inj e_; subst e
  rw [← rd6 b n]
  exact h_
theorem mid7 (A : Option Addr) (c : Nat) (b : List Int) (n : Nat) (hc : b.length ≤ c) (h4 : 2 ≤ wd (b.drop n) 4) (h : (n : Int) + 6 + wd (b.drop n) 4 ≤ (b.length : Int)) :
    ∃ A' : Option Addr, (∀ W : World, (Instr.slice 22 (.slice A b.length c) (some (.int .i64 ((n : Int) + 7))) (some (.int .i64 ((n : Int) + 6 + wd (b.drop n) 4))) none).run Try.prog W = .ok (.slice A' (pduOf (b.drop n)).length (c - (n + 7))) W) ∧
      (∀ W : World, Kd.C (Kd.int .u8) W A b.length b → Kd.C (Kd.int .u8) W A' (pduOf (b.drop n)).length (pduOf (b.drop n))) ∧ (pduOf (b.drop n)).length ≤ c - (n + 7) := by
  obtain ⟨j0, hj0, hjz, hj1, hj2⟩ := info_parts PZ.info5
  have e0 := pdu_cut b n (by omega)
  generalize wd (b.drop n) 4 = x at *
  obtain ⟨k, rfl⟩ := Int.eq_ofNat_of_zero_le (show 0 ≤ x by omega)
  obtain ⟨A7, hcut, hcutr, hcutl⟩ := print_mid_int (P := Try.prog) (k := .u8) 22 5 Try.underlying22 hj0 hj1 A c b ((n : Int) + 7) ((n : Int) + 6 + (k : Int)) (by omega) (by omega) (by omega) hc
  have e1 : ((n : Int) + 7).toNat = n + 7 := by omega
  have e2 : ((n : Int) + 6 + (k : Int)).toNat = n + 6 + k := by omega
  rw [Int.toNat_natCast] at e0
  rw [e1, e2, ← e0] at hcut hcutr hcutl
  exact ⟨A7, hcut, fun W hC => Kd.C_of_reads (d := (0 : Int)) (h1 := fun _ => rfl) (hcutr W (Kd.reads_of_C hC)), hcutl⟩
theorem wd_two (b : List Int) (n k : Nat) : wd (b.drop (n + k)) 0 = wd (b.drop n) (k : Int) := (wd_at b (n + k) 0).trans (wd_at b n k).symm
set_option maxHeartbeats 20000000 in
set_option maxRecDepth 100000 in
theorem all_c (M : Nat → Prop) (A : Option Addr) (c : Nat) (b : List Int) (w : World) (hM : ∀ k, M k → k < w.heap.size) (hV : Ever M w (fun W => Kd.C (Kd.int .u8) W A b.length b)) (hc : b.length ≤ c) (hby : Bytes b) (hl : b.length ≤ 1000000) (K : Nat) (hK : b.length < K) (fs : List PZ.S37) (r : List Int) (br : Bool) (hr : allF K b = (fs, r, br)) :
    Calls Try.prog 27 #[.slice A b.length c] w fun e w' => ∃ v', e = .returned (.tuple #[v', .int .i64 r.length, .bool br]) ∧ IsRow PZ.k37 M w' v' fs ∧ Below w.heap.size w w' := by
  have HV := Aside0.mk hV; have HC := Aside0.mk hc; have HBY := Aside0.mk hby; have HM := Aside0.mk hM; have HR : Aside0 (allF K (b.drop 0) = (fs, r, br)) := ⟨hr⟩; clear hV hc hby hM hr
  go_enter Try.func27, Try.ntmps27
  go_wp2_with (fail)
  go_loopg [5, 6] K (fun kq v5 v6 wr => ∃ (out ft : List PZ.S37) (n : Nat), v6 = .int .i64 n ∧ n ≤ b.length ∧ b.length - n < kq ∧ out.length ≤ n ∧ Aside0 (allF kq (b.drop n) = (ft, r, br)) ∧ Aside0 (out ++ ft = fs) ∧ Aside0 (kq ≤ K) ∧ Aside0 (OwnE PZ.k37 M 37 w.heap.size wr v5 out) ∧ Aside0 (Below w.heap.size w wr))
  case atStart => exact ⟨[], fs, 0, rfl, by omega, by omega, by simp, HR, ⟨rfl⟩, ⟨Nat.le_refl _⟩, ⟨OwnE.nil _ _ _ _ _⟩, ⟨Below.refl _ _⟩⟩
  case round =>
    clear HR
    obtain ⟨out, ft, n, rfl, hn, hk, hol, HR, HF, HKK, HO, HB⟩ := hrel
    cases gk with
    | zero => omega
    | succ k1 =>
      have hd : (b.drop n).length = b.length - n := List.length_drop
      have hre := HR.out; clear HR
      unfold allF at hre
      by_cases h6 : (b.drop n).length < 6
      · rw [if_pos h6] at hre
        simp only [Prod.mk.injEq] at hre
        obtain ⟨rfl, rfl, rfl⟩ := hre
        rw [hd] at h6
        have hf := HF.out; rw [List.append_nil] at hf; subst hf
        have hsb : ((b.drop n).length : Int) = (b.length : Int) - (n : Int) := by omega
        have HSB := Aside0.mk hsb; clear hsb hd
        have h6b : decide ((n : Int) + 6 ≤ (b.length : Int)) = false := decide_eq_false (by omega)
        have h6n : decide (n + 6 ≤ b.length) = false := decide_eq_false (by omega)
        go_wp2_with (fail)
        go_ret3
        exact ⟨_, by first | (rw [HSB.out]; done) | (rw [HSB.out]; rfl) | (rw [HSB.out]; congr 3; omega) | (rw [HSB.out]; go_num), HO.out.row (fun k a hm => by have := HO.out.base_le k a; have := HM.out k hm; omega), HB.out⟩
      rw [if_neg h6] at hre
      have h6b : decide ((n : Int) + 6 ≤ (b.length : Int)) = true := decide_eq_true (by omega)
      have h6n : decide (n + 6 ≤ b.length) = true := decide_eq_true (by omega)
      have HBD : Aside0 (Bytes (b.drop n)) := ⟨fun x hx => HBY.out x (List.mem_of_mem_drop hx)⟩
      have HVW : Aside0 (Kd.C (Kd.int .u8) wr A b.length b) := ⟨HV.out.at_ _ (Ext.of_below HB.out)⟩
      obtain ⟨i0, hi0, hz0_, hz1_, hz2_⟩ := info_parts PZ.info5
      obtain ⟨B4, hs4, hr4, hl4⟩ := print_drop_of (P := Try.prog) (Value.int .u8) 0 22 5 .i64 Try.underlying22 hi0 hz1_ A c b (((n + 4 : Nat) : Int)) (by omega) (by omega) HC.out
      rw [Int.toNat_natCast] at hr4 hl4; simp only [Int.toNat_natCast] at hs4; simp only [Int.natCast_add, Int.cast_ofNat_Int] at hs4
      have F4 : Aside0 (basculeref01_Number.f (b.drop (n + 4)) = some (wd (b.drop n) 4)) := ⟨by rw [number_f (fun x hx => HBY.out x (List.mem_of_mem_drop hx)) (by rw [List.length_drop]; omega)]; exact congrArg some (wd_two b n 4)⟩
      have V4 : Aside0 (Kd.C (Kd.int .u8) wr B4 (b.drop (n + 4)).length (b.drop (n + 4))) := ⟨Kd.C_of_reads (d := (0 : Int)) (h1 := fun _ => rfl) (hr4 wr (Kd.reads_of_C HVW.out))⟩
      obtain ⟨B2, hs2, hr2, hl2⟩ := print_drop_of (P := Try.prog) (Value.int .u8) 0 22 5 .i64 Try.underlying22 hi0 hz1_ A c b (((n + 2 : Nat) : Int)) (by omega) (by omega) HC.out
      rw [Int.toNat_natCast] at hr2 hl2; simp only [Int.toNat_natCast] at hs2; simp only [Int.natCast_add, Int.cast_ofNat_Int] at hs2
      have F2 : Aside0 (basculeref01_Number.f (b.drop (n + 2)) = some (wd (b.drop n) 2)) := ⟨by rw [number_f (fun x hx => HBY.out x (List.mem_of_mem_drop hx)) (by rw [List.length_drop]; omega)]; exact congrArg some (wd_two b n 2)⟩
      have V2 : Aside0 (Kd.C (Kd.int .u8) wr B2 (b.drop (n + 2)).length (b.drop (n + 2))) := ⟨Kd.C_of_reads (d := (0 : Int)) (h1 := fun _ => rfl) (hr2 wr (Kd.reads_of_C HVW.out))⟩
      obtain ⟨B0, hs0, hr0, hl0⟩ := print_drop_of (P := Try.prog) (Value.int .u8) 0 22 5 .i64 Try.underlying22 hi0 hz1_ A c b (n : Int) (by omega) (by omega) HC.out
      rw [Int.toNat_natCast] at hr0 hl0; simp only [Int.toNat_natCast] at hs0
      have F0 : Aside0 (basculeref01_Number.f (b.drop (n)) = some (wd (b.drop n) 0)) := ⟨by rw [number_f (fun x hx => HBY.out x (List.mem_of_mem_drop hx)) (by rw [List.length_drop]; omega)]⟩
      have V0 : Aside0 (Kd.C (Kd.int .u8) wr B0 (b.drop (n)).length (b.drop (n))) := ⟨Kd.C_of_reads (d := (0 : Int)) (h1 := fun _ => rfl) (hr0 wr (Kd.reads_of_C HVW.out))⟩
      clear hr4 hr2 hr0 hi0 hz0_ hz1_ hz2_
      have HL4 := Aside0.mk hl4; have HL2 := Aside0.mk hl2; have HL0 := Aside0.mk hl0; clear hl4 hl2 hl0 hd
      have hx4 := wd_bd HBD.out 4; have hx2 := wd_bd HBD.out 2
      generalize b.drop (n + 4) = d4 at *; generalize b.drop (n + 2) = d2 at *
      by_cases hb : bad (b.drop n)
      · rw [if_pos hb] at hre
        simp only [Prod.mk.injEq] at hre
        obtain ⟨rfl, rfl, rfl⟩ := hre
        have hf := HF.out; rw [List.append_nil] at hf; subst hf
        unfold bad at hb
        generalize wd (b.drop n) 4 = x4 at *; generalize wd (b.drop n) 2 = x2 at *
        clear HBD F0 V0
        have HX4 := Aside0.mk hx4; have HX2 := Aside0.mk hx2; clear hx4 hx2
        by_cases e2 : x2 = 0
        · have e2b : (x2 == 0) = true := beq_iff_eq.2 e2; have e2n : (x2 != 0) = false := (by rw [bne, e2b]; try rfl)
          have E2 := Aside0.mk e2; clear e2
          by_cases e4 : x4 < 2
          · have e4b : decide (x4 < 2) = true := decide_eq_true e4
            have tk4 := Aside0.mk trivial; go_wp2_with (first | (go_at_call 39; have _t := tk4; (refine (basculeref01_Number.calls B4 _ d4 _ _ V4.out HL4.out F4.out).mono ?_; rintro e w' ⟨rfl, ⟨nd4, rfl⟩⟩); clear tk4 _t; have tk2 := Aside0.mk trivial) | (go_at_call 39; have _t := tk2; (refine (basculeref01_Number.calls B2 _ d2 _ _ (Kd.C_drewN V2.out _) HL2.out F2.out).mono ?_; rintro e w' ⟨rfl, ⟨nd2, rfl⟩⟩); clear tk2 _t))
            all_goals go_ret3
            all_goals exact ⟨_, rfl, (HO.out.below (pw_below_drewN (Below.refl _ _) _)).row (fun k a hm => by have := HO.out.base_le k a; have := HM.out k hm; omega), pw_below_drewN HB.out _⟩
          · have e4b : decide (x4 < 2) = false := decide_eq_false e4
            have e5b : decide (254 < x4) = true := decide_eq_true (by have := E2.out; omega)
            have tk4 := Aside0.mk trivial; go_wp2_with (first | (go_at_call 39; have _t := tk4; (refine (basculeref01_Number.calls B4 _ d4 _ _ V4.out HL4.out F4.out).mono ?_; rintro e w' ⟨rfl, ⟨nd4, rfl⟩⟩); clear tk4 _t; have tk2 := Aside0.mk trivial) | (go_at_call 39; have _t := tk2; (refine (basculeref01_Number.calls B2 _ d2 _ _ (Kd.C_drewN V2.out _) HL2.out F2.out).mono ?_; rintro e w' ⟨rfl, ⟨nd2, rfl⟩⟩); clear tk2 _t))
            all_goals go_ret3
            all_goals exact ⟨_, rfl, (HO.out.below (pw_below_drewN (Below.refl _ _) _)).row (fun k a hm => by have := HO.out.base_le k a; have := HM.out k hm; omega), pw_below_drewN HB.out _⟩
        · have e2b : (x2 == 0) = false := beq_eq_false_iff_ne.2 e2; have e2n : (x2 != 0) = true := (by rw [bne, e2b]; try rfl)
          have tk4 := Aside0.mk trivial; go_wp2_with (first | (go_at_call 39; have _t := tk4; (refine (basculeref01_Number.calls B4 _ d4 _ _ V4.out HL4.out F4.out).mono ?_; rintro e w' ⟨rfl, ⟨nd4, rfl⟩⟩); clear tk4 _t; have tk2 := Aside0.mk trivial) | (go_at_call 39; have _t := tk2; (refine (basculeref01_Number.calls B2 _ d2 _ _ (Kd.C_drewN V2.out _) HL2.out F2.out).mono ?_; rintro e w' ⟨rfl, ⟨nd2, rfl⟩⟩); clear tk2 _t))
          all_goals go_ret3
          all_goals exact ⟨_, rfl, (HO.out.below (pw_below_drewN (Below.refl _ _) _)).row (fun k a hm => by have := HO.out.base_le k a; have := HM.out k hm; omega), pw_below_drewN HB.out _⟩
      rw [if_neg hb] at hre
      obtain ⟨b2, b4a, b4b⟩ := not_bad hb
      have HBN := Aside0.mk hb; clear hb
      by_cases hfl : ((b.drop n).length : Int) < 6 + wd (b.drop n) 4
      · rw [if_pos hfl] at hre
        simp only [Prod.mk.injEq] at hre
        obtain ⟨rfl, rfl, rfl⟩ := hre
        have hf := HF.out; rw [List.append_nil] at hf; subst hf
        have hdl : ((b.drop n).length : Int) = (b.length : Int) - (n : Int) := by rw [List.length_drop]; omega
        have HDL := Aside0.mk hdl; rw [hdl] at hfl; clear hdl HBD F0 V0 HBN
        generalize hg4 : wd (b.drop n) 4 = x4 at *; generalize hg2 : wd (b.drop n) 2 = x2 at *; clear hg4 hg2
        have HX4 := Aside0.mk hx4; have e2b : (x2 == 0) = true := beq_iff_eq.2 b2; have e2n : (x2 != 0) = false := (by rw [bne, e2b]; try rfl); have e4b : decide (x4 < 2) = false := decide_eq_false (by omega); have e5b : decide (254 < x4) = false := decide_eq_false (by omega)
        have e6b : decide ((b.length : Int) < (n : Int) + 6 + x4) = true := decide_eq_true (by omega)
        clear b2 hx2
        have tk4 := Aside0.mk trivial; go_wp2_with (first | (go_at_call 39; have _t := tk4; (refine (basculeref01_Number.calls B4 _ d4 _ _ V4.out HL4.out F4.out).mono ?_; rintro e w' ⟨rfl, ⟨nd4, rfl⟩⟩); clear tk4 _t; have tk2 := Aside0.mk trivial) | (go_at_call 39; have _t := tk2; (refine (basculeref01_Number.calls B2 _ d2 _ _ (Kd.C_drewN V2.out _) HL2.out F2.out).mono ?_; rintro e w' ⟨rfl, ⟨nd2, rfl⟩⟩); clear tk2 _t))
        all_goals go_ret3
        all_goals exact ⟨_, by first | (rw [HDL.out]; done) | (rw [HDL.out]; rfl), (HO.out.below (pw_below_drewN (Below.refl _ _) _)).row (fun k a hm => by have := HO.out.base_le k a; have := HM.out k hm; omega), pw_below_drewN HB.out _⟩
      rw [if_neg hfl] at hre
      simp only [Prod.mk.injEq] at hre
      have hdl : (b.drop n).length = b.length - n := List.length_drop
      obtain ⟨ft2, hft⟩ : ∃ ft2, ft2 = (allF k1 (restOf (b.drop n))).1 := ⟨_, rfl⟩
      rw [← hft] at hre
      obtain ⟨hre1, hre2⟩ := hre
      subst hre1
      have HR2 : Aside0 (allF k1 (restOf (b.drop n)) = (ft2, r, br)) := ⟨by rw [hft, ← hre2]⟩
      clear hre2 hft
      have hrl := rest_lt (b := b.drop n) h6 HBN.out hfl
      have hro : restOf (b.drop n) = b.drop (n + (6 + (wd (b.drop n) 4).toNat)) := rest_cut b n hx4.1
      skip
      rw [hro] at HR2; clear hro
      have hu := rd_b HBD.out 6
      obtain ⟨ad, hAe, hcell6⟩ := Kd.at_int HVW.out ((n : Int) + 6) (by omega) (by omega)
      subst hAe
      clear hcell6
      obtain ⟨hw6, hw7, hwn, q6a, q6b, q6c, hfl'⟩ := cut_facts b n (wd (b.drop n) 4) hl hn b4a hfl
      have HW6 := Aside0.mk hw6; have HW7 := Aside0.mk hw7; have HWN := Aside0.mk hwn; clear hw6 hw7 hwn
      have q6d := eq_true q6c
      have HC6 : Aside0 (∀ W, Below w.heap.size w W → W.cell? (ad.add ((n : Int) + 6).toNat) = some (.int .u8 (rd (b.drop n) 6))) := ⟨fun W hW => cell6 (HV.out.at_ _ (Ext.of_below hW)) q6b⟩
      obtain ⟨A7, hcut, hcutr, hcutl⟩ := mid7 (some ad) c b n HC.out b4a hfl'
      have HPV : Aside0 (∀ W, Below w.heap.size w W → Kd.C (Kd.int .u8) W A7 (pduOf (b.drop n)).length (pduOf (b.drop n))) := ⟨fun W hB => hcutr W (HV.out.at_ _ (Ext.of_below hB))⟩
      have HPC := Aside0.mk hcutl
      have hwu : wrap64 (rd (b.drop n) 6) = rd (b.drop n) 6 := wr_id (by omega) (by omega)
      have HEP : Aside0 (∀ W, Below w.heap.size w W → Ever (Mv M u5) W (fun W => Kd.C (Kd.int .u8) W A7 (pduOf (b.drop n)).length (pduOf (b.drop n)))) := ⟨fun W hB => (HV.out.imp (fun W h => hcutr W h)).grow (Ext.of_below hB) (fun k hk => by rcases hk with a | a; exact .inl a; exact .inr (HO.out.base_le k a.symm))⟩
      clear hcutr hcutl hdl HVW
      have HRL : (n + (6 + (wd (b.drop n) 4).toNat)) + 8 ≤ b.length + 8 := by omega
      clear hfl hrl h6 HBD HBN q6c
      generalize hgp : pduOf (b.drop n) = p at *; generalize hgu : rd (b.drop n) 6 = u at *; generalize hg0 : wd (b.drop n) 0 = x0 at *; clear hgp hgu hg0
      generalize hg4 : wd (b.drop n) 4 = x4 at *; generalize hg2 : wd (b.drop n) 2 = x2 at *; clear hg4 hg2
      have HX4 := Aside0.mk hx4; have e2b : (x2 == 0) = true := beq_iff_eq.2 b2; have e2n : (x2 != 0) = false := (by rw [bne, e2b]; try rfl); have e4b : decide (x4 < 2) = false := decide_eq_false (by omega); have e5b : decide (254 < x4) = false := decide_eq_false (by omega)
      have e6b : decide ((b.length : Int) < (n : Int) + 6 + x4) = false := decide_eq_false (by omega)
      have HWU := Aside0.mk hwu; have HFL := Aside0.mk hfl'; have HU := Aside0.mk hu; have H44 := Aside0.mk b4a; clear b2 hx2 hwu
      generalize b.drop n = d0 at *
      obtain ⟨x4n, rfl⟩ := Int.eq_ofNat_of_zero_le (show 0 ≤ x4 by omega)
      rw [Int.toNat_natCast] at HR2
      have tk4 := Aside0.mk trivial; go_upto_region 8 with (first | (go_at_call 39; have _t := tk4; (refine (basculeref01_Number.calls B4 _ d4 _ _ V4.out HL4.out F4.out).mono ?_; rintro e w' ⟨rfl, ⟨nd4, rfl⟩⟩); clear tk4 _t; have tk2 := Aside0.mk trivial) | (go_at_call 39; have _t := tk2; (refine (basculeref01_Number.calls B2 _ d2 _ _ (Kd.C_drewN V2.out _) HL2.out F2.out).mono ?_; rintro e w' ⟨rfl, ⟨nd2, rfl⟩⟩); clear tk2 _t))
      have hw6 := HW6.out; have hw7 := HW7.out; have hwn := HWN.out; have hwu := HWU.out
      refine start_ (n := 23) (S := fun W => W.cell? (ad.add ((n : Int) + 6).toNat) = some (.int .u8 u)) (ds := []) #[false, false, false, false, false, false, false, false, false, false, false, false, false, false, false, false, false, false, false, false, false, false, false] (by kernel_rfl) rfl rfl ?_ (fun hHeld => ?_)
      · first | exact HC6.out _ HB9.out | exact HC6.out _ (by repeat (first | (with_reducible first | exact HB.out | apply below_alloc | apply pw_below_drewN | apply below_drew1) | exact HB.out))
      refine pure_ (i := 0) (N := some 40) (v := ?_) (a' := ?_) #[true, false, false, false, false, false, false, false, false, false, false, false, false, false, false, false, false, false, false, false, false, false, false] rfl rfl (by kernel_rfl) (fun _ _ _ h => h) (Or.inl ⟨by rfl, ?_⟩) ?_ ?_
      rotate_left
      · intro w'
        go_simp
        with_reducible rfl
      rotate_left
      · simp only [Act.put, List.setIfInBounds_toArray, List.set_cons_zero, List.set_cons_succ, i64_w, i32_w, hw6, hw7, hwn, hwu]
        rfl
      refine pure_ (i := 1) (N := some 41) (v := ?_) (a' := ?_) #[true, true, false, false, false, false, false, false, false, false, false, false, false, false, false, false, false, false, false, false, false, false, false] rfl rfl (by kernel_rfl) (fun _ _ _ h => h) (Or.inl ⟨by rfl, ?_⟩) ?_ ?_
      rotate_left
      · intro w'
        go_simp
        with_reducible rfl
      rotate_left
      · simp only [Act.put, List.setIfInBounds_toArray, List.set_cons_zero, List.set_cons_succ, i64_w, i32_w, hw6, hw7, hwn, hwu]
        rfl
      refine pure_ (i := 2) (N := some 42) (v := ?_) (a' := ?_) #[true, true, true, false, false, false, false, false, false, false, false, false, false, false, false, false, false, false, false, false, false, false, false] rfl rfl (by kernel_rfl) (fun _ _ _ h => h) (Or.inl ⟨by rfl, ?_⟩) ?_ ?_
      rotate_left
      · intro w'
        go_simp
        with_reducible rfl
      rotate_left
      · simp only [Act.put, List.setIfInBounds_toArray, List.set_cons_zero, List.set_cons_succ, i64_w, i32_w, hw6, hw7, hwn, hwu]
        rfl
      refine take_ (i := 3) (N := some 43) (v := ?_) (a' := ?_) #[true, true, true, true, false, false, false, false, false, false, false, false, false, false, false, false, false, false, false, false, false, false, false] rfl rfl (by kernel_rfl) (fun _ _ _ h => h) (Or.inl ⟨by rfl, ?_⟩) hHeld ?_ ?_
      rotate_left
      · rintro w' hS_
        go_simp
        with_reducible rfl
      rotate_left
      · simp only [Act.put, List.setIfInBounds_toArray, List.set_cons_zero, List.set_cons_succ, i64_w, i32_w, hw6, hw7, hwn, hwu]
        rfl
      refine pure_ (i := 5) (N := some 45) (v := ?_) (a' := ?_) #[true, true, true, true, false, true, false, false, false, false, false, false, false, false, false, false, false, false, false, false, false, false, false] rfl rfl (by kernel_rfl) (fun _ _ _ h => h) (Or.inl ⟨by rfl, ?_⟩) ?_ ?_
      rotate_left
      · intro w'
        go_simp
        with_reducible rfl
      rotate_left
      · simp only [Act.put, List.setIfInBounds_toArray, List.set_cons_zero, List.set_cons_succ, i64_w, i32_w, hw6, hw7, hwn, hwu]
        rfl
      refine pure_ (i := 6) (N := some 46) (v := ?_) (a' := ?_) #[true, true, true, true, false, true, true, false, false, false, false, false, false, false, false, false, false, false, false, false, false, false, false] rfl rfl (by kernel_rfl) (fun _ _ _ h => h) (Or.inl ⟨by rfl, ?_⟩) ?_ ?_
      rotate_left
      · intro w'
        go_simp
        with_reducible rfl
      rotate_left
      · simp only [Act.put, List.setIfInBounds_toArray, List.set_cons_zero, List.set_cons_succ, i64_w, i32_w, hw6, hw7, hwn, hwu]
        rfl
      refine pure_ (i := 7) (N := some 47) (v := ?_) (a' := ?_) #[true, true, true, true, false, true, true, true, false, false, false, false, false, false, false, false, false, false, false, false, false, false, false] rfl rfl (by kernel_rfl) (fun _ _ _ h => h) (Or.inl ⟨by rfl, ?_⟩) ?_ ?_
      rotate_left
      · intro w'
        go_simp
        with_reducible rfl
      rotate_left
      · simp only [Act.put, List.setIfInBounds_toArray, List.set_cons_zero, List.set_cons_succ, i64_w, i32_w, hw6, hw7, hwn, hwu]
        rfl
      refine take_ (i := 8) (N := some 48) (v := ?_) (a' := ?_) #[true, true, true, true, false, true, true, true, true, false, false, false, false, false, false, false, false, false, false, false, false, false, false] rfl rfl (by kernel_rfl) (fun _ _ _ h => h) (Or.inl ⟨by rfl, ?_⟩) hHeld ?_ ?_
      rotate_left
      · rintro w' hS_
        go_simp
        with_reducible rfl
      rotate_left
      · simp only [Act.put, List.setIfInBounds_toArray, List.set_cons_zero, List.set_cons_succ, i64_w, i32_w, hw6, hw7, hwn, hwu]
        rfl
      refine take_ (i := 9) (N := some 49) (v := ?_) (a' := ?_) #[true, true, true, true, false, true, true, true, true, true, false, false, false, false, false, false, false, false, false, false, false, false, false] rfl rfl (by kernel_rfl) (fun _ _ _ h => h) (Or.inl ⟨by rfl, ?_⟩) hHeld ?_ ?_
      rotate_left
      · rintro w' hS_
        go_simp
        with_reducible rfl
      rotate_left
      · simp only [Act.put, List.setIfInBounds_toArray, List.set_cons_zero, List.set_cons_succ, i64_w, i32_w, hw6, hw7, hwn, hwu]
        rfl
      refine take_ (i := 10) (N := some 50) (v := ?_) (a' := ?_) #[true, true, true, true, false, true, true, true, true, true, true, false, false, false, false, false, false, false, false, false, false, false, false] rfl rfl (by kernel_rfl) (fun _ _ _ h => h) (Or.inl ⟨by rfl, ?_⟩) hHeld ?_ ?_
      rotate_left
      · rintro w' hS_
        go_simp
        with_reducible rfl
      rotate_left
      · simp only [Act.put, List.setIfInBounds_toArray, List.set_cons_zero, List.set_cons_succ, i64_w, i32_w, hw6, hw7, hwn, hwu]
        rfl
      refine pure_ (i := 11) (N := some 51) (v := ?_) (a' := ?_) #[true, true, true, true, false, true, true, true, true, true, true, true, false, false, false, false, false, false, false, false, false, false, false] rfl rfl (by kernel_rfl) (fun _ _ _ h => h) (Or.inl ⟨by rfl, ?_⟩) ?_ ?_
      rotate_left
      · intro w'
        go_simp
        with_reducible rfl
      rotate_left
      · simp only [Act.put, List.setIfInBounds_toArray, List.set_cons_zero, List.set_cons_succ, i64_w, i32_w, hw6, hw7, hwn, hwu]
        rfl
      refine pure_ (i := 12) (N := some 52) (v := ?_) (a' := ?_) #[true, true, true, true, false, true, true, true, true, true, true, true, true, false, false, false, false, false, false, false, false, false, false] rfl rfl (by kernel_rfl) (fun _ _ _ h => h) (Or.inl ⟨by rfl, ?_⟩) ?_ ?_
      rotate_left
      · intro w'
        go_simp
        with_reducible rfl
      rotate_left
      · simp only [Act.put, List.setIfInBounds_toArray, List.set_cons_zero, List.set_cons_succ, i64_w, i32_w, hw6, hw7, hwn, hwu]
        rfl
      refine pure_ (i := 13) (N := some 53) (v := ?_) (a' := ?_) #[true, true, true, true, false, true, true, true, true, true, true, true, true, true, false, false, false, false, false, false, false, false, false] rfl rfl (by kernel_rfl) (fun _ _ _ h => h) (Or.inl ⟨by rfl, ?_⟩) ?_ ?_
      rotate_left
      · intro w'
        go_simp
        with_reducible rfl
      rotate_left
      · simp only [Act.put, List.setIfInBounds_toArray, List.set_cons_zero, List.set_cons_succ, i64_w, i32_w, hw6, hw7, hwn, hwu]
        rfl
      refine pure_ (i := 14) (N := some 54) (v := ?_) (a' := ?_) #[true, true, true, true, false, true, true, true, true, true, true, true, true, true, true, false, false, false, false, false, false, false, false] rfl rfl (by kernel_rfl) (fun _ _ _ h => h) (Or.inl ⟨by rfl, ?_⟩) ?_ ?_
      rotate_left
      · intro w'
        go_simp
        with_reducible rfl
      rotate_left
      · simp only [Act.put, List.setIfInBounds_toArray, List.set_cons_zero, List.set_cons_succ, i64_w, i32_w, hw6, hw7, hwn, hwu]
        rfl
      refine pure_ (i := 15) (N := some 55) (v := ?_) (a' := ?_) #[true, true, true, true, false, true, true, true, true, true, true, true, true, true, true, true, false, false, false, false, false, false, false] rfl rfl (by kernel_rfl) (fun _ _ _ h => h) (Or.inl ⟨by rfl, ?_⟩) ?_ ?_
      rotate_left
      · intro w'
        go_simp
        with_reducible rfl
      rotate_left
      · simp only [Act.put, List.setIfInBounds_toArray, List.set_cons_zero, List.set_cons_succ, i64_w, i32_w, hw6, hw7, hwn, hwu]
        rfl
      refine pure_ (i := 16) (N := some 56) (v := ?_) (a' := ?_) #[true, true, true, true, false, true, true, true, true, true, true, true, true, true, true, true, true, false, false, false, false, false, false] rfl rfl (by kernel_rfl) (fun _ _ _ h => h) (Or.inl ⟨by rfl, ?_⟩) ?_ ?_
      rotate_left
      · intro w'
        go_simp
        with_reducible rfl
      rotate_left
      · simp only [Act.put, List.setIfInBounds_toArray, List.set_cons_zero, List.set_cons_succ, i64_w, i32_w, hw6, hw7, hwn, hwu]
        rfl
      refine pure_ (i := 17) (N := some 57) (v := ?_) (a' := ?_) #[true, true, true, true, false, true, true, true, true, true, true, true, true, true, true, true, true, true, false, false, false, false, false] rfl rfl (by kernel_rfl) (fun _ _ _ h => h) (Or.inl ⟨by rfl, ?_⟩) ?_ ?_
      rotate_left
      · intro w'
        go_simp
        with_reducible rfl
      rotate_left
      · simp only [Act.put, List.setIfInBounds_toArray, List.set_cons_zero, List.set_cons_succ, i64_w, i32_w, hw6, hw7, hwn, hwu]
        rfl
      refine take_ (i := 18) (N := some 58) (v := ?_) (a' := ?_) #[true, true, true, true, false, true, true, true, true, true, true, true, true, true, true, true, true, true, true, false, false, false, false] rfl rfl (by kernel_rfl) (fun _ _ _ h => h) (Or.inl ⟨by rfl, ?_⟩) hHeld ?_ ?_
      rotate_left
      · rintro w' hS_
        go_simp
        with_reducible rfl
      rotate_left
      · simp only [Act.put, List.setIfInBounds_toArray, List.set_cons_zero, List.set_cons_succ, i64_w, i32_w, hw6, hw7, hwn, hwu]
        rfl
      refine one_ (i := 4) (N := some 44) #[true, true, true, true, true, true, true, true, true, true, true, true, true, true, true, true, true, true, true, false, false, false, false] rfl rfl (by kernel_rfl) (by decide) (fun K hK => ?_)
      refine goes_ Try.func39 (by kernel_rfl) rfl #[.slice B0 d0.length (c - n)] (by rfl) rfl rfl (by (try simp only [List.map_toArray, List.map_cons, List.map_nil]); first | done | rfl) ?_
      (refine (basculeref01_Number.calls B0 _ d0 x0 _ ?hv HL0.out F0.out).mono ?_; case hv => (with_reducible repeat (first | refine Kd.C_drewN ?_ _ | refine Kd.C_drew ?_)); exact V0.out)
      rintro e w' ⟨rfl, ⟨nd0, rfl⟩⟩
      refine ⟨_, rfl, ?_⟩
      refine hK.out _ _ ?_ (fun hHeld => ?_)
      · first | exact HC6.out _ HB9.out | exact HC6.out _ (by repeat (first | (with_reducible first | exact HB.out | apply below_alloc | apply pw_below_drewN | apply below_drew1) | exact HB.out))
      clear hK K
      refine norm_ (a' := ?_) ?_ ?_
      rotate_left
      · show Act.put _ (some 44) _ = _
        simp only [Act.put, List.setIfInBounds_toArray, List.set_cons_zero, List.set_cons_succ, i64_w, i32_w, hw6, hw7, hwn, hwu]
        rfl
      refine pure_ (i := 19) (N := some 59) (v := ?_) (a' := ?_) #[true, true, true, true, true, true, true, true, true, true, true, true, true, true, true, true, true, true, true, true, false, false, false] rfl rfl (by kernel_rfl) (fun _ _ _ h => h) (Or.inl ⟨by rfl, ?_⟩) ?_ ?_
      rotate_left
      · intro w'
        go_simp
        with_reducible rfl
      rotate_left
      · simp only [Act.put, List.setIfInBounds_toArray, List.set_cons_zero, List.set_cons_succ, i64_w, i32_w, hw6, hw7, hwn, hwu]
        rfl
      refine one_ (i := 20) (N := some 60) #[true, true, true, true, true, true, true, true, true, true, true, true, true, true, true, true, true, true, true, true, true, false, false] rfl rfl (by kernel_rfl) (by decide) (fun K hK => ?_)
      refine value_ (v := ?vv) (w1 := ?ww) (by rfl) rfl ?hr ?kk
      case hr => (go_simp; refine And.intro ?_ ?_ <;> rfl)
      refine hK.out _ _ ?_ (fun hHeld => ?_)
      · first | exact HC6.out _ HB9.out | exact HC6.out _ (by repeat (first | (with_reducible first | exact HB.out | apply below_alloc | apply pw_below_drewN | apply below_drew1) | exact HB.out))
      clear hK K
      refine norm_ (a' := ?_) ?_ ?_
      rotate_left
      · show Act.put _ (some 60) _ = _
        simp only [Act.put, List.setIfInBounds_toArray, List.set_cons_zero, List.set_cons_succ, i64_w, i32_w, hw6, hw7, hwn, hwu]
        rfl
      refine one_ (i := 21) (N := some 61) #[true, true, true, true, true, true, true, true, true, true, true, true, true, true, true, true, true, true, true, true, true, true, false] rfl rfl (by kernel_rfl) (by decide) (fun K hK => ?_)
      refine ev_append_step PZ.k37 (M := M) (w0 := w) w.heap.size (by rfl) (.tmp 40) (.tmp 60) 45 37 (.agg #[.int .i64 0, .int .i64 0, .slice none 0 0]) 40 rfl Try.underlying45 PZ.info37 rfl (by decide) (by decide) u5 out ⟨x0, u, p⟩ [.int .i64 x0, .int .i64 u, .slice A7 p.length (c - (n + 7))] rfl rfl ?aO ?aP ?aB ?aS ?aL ?_
      case aO => exact HO.out.below (by repeat (first | exact Below.refl _ _ | apply pw_below_drewN | apply below_drew1))
      case aP => exact (HEP.out _ (by repeat (first | (with_reducible first | exact HB.out | apply below_alloc | apply pw_below_drewN | apply below_drew1) | exact HB.out))).imp (fun W h => PZ.k37_mk W ⟨x0, u, p⟩ HPC.out h)
      case aB => exact (by repeat (first | (with_reducible first | exact HB.out | apply below_alloc | apply pw_below_drewN | apply below_drew1) | exact HB.out))
      case aS => exact below_size (by repeat (first | (with_reducible first | exact HB.out | apply below_alloc | apply pw_below_drewN | apply below_drew1) | exact HB.out))
      case aL => (clear hw6 hw7 hwn hwu; have := HKK.out; omega)
      intro v1 w9 HO9 HB9 hg9 hat9
      have HO9 := Aside0.mk HO9; have HB9 := Aside0.mk HB9; clear hg9 hat9
      refine hK.out _ _ ?_ (fun hHeld => ?_)
      · first | exact HC6.out _ HB9.out | exact HC6.out _ (by repeat (first | (with_reducible first | exact HB.out | apply below_alloc | apply pw_below_drewN | apply below_drew1) | exact HB.out))
      clear hK K
      refine norm_ (a' := ?_) ?_ ?_
      rotate_left
      · show Act.put _ (some 61) _ = _
        simp only [Act.put, List.setIfInBounds_toArray, List.set_cons_zero, List.set_cons_succ, i64_w, i32_w, hw6, hw7, hwn, hwu]
        rfl
      refine pure_ (i := 22) (N := some 5) (v := ?_) (a' := ?_) #[true, true, true, true, true, true, true, true, true, true, true, true, true, true, true, true, true, true, true, true, true, true, true] rfl rfl (by kernel_rfl) (fun _ _ _ h => h) (Or.inl ⟨by rfl, ?_⟩) ?_ ?_
      rotate_left
      · intro w'
        go_simp
        with_reducible rfl
      rotate_left
      · simp only [Act.put, List.setIfInBounds_toArray, List.set_cons_zero, List.set_cons_succ, i64_w, i32_w, hw6, hw7, hwn, hwu]
        rfl
      refine done_ (by kernel_rfl) ?_
      clear hw6 hw7 hwn hwu; have hfl' := HFL.out
      go_wp2_with (fail)
      go_roundg k1
      case measure => exact Nat.lt_succ_self k1
      have h44 := H44.out
      exact ⟨out ++ [⟨x0, u, p⟩], ft2, n + (6 + x4n), congrArg (Value.int .i64) (by omega), by omega, by omega, by rw [List.length_append, List.length_singleton]; omega, HR2, ⟨by rw [List.append_assoc]; exact HF.out⟩, ⟨by have := HKK.out; omega⟩, HO9, HB9⟩
end Go.Proofs.Ytabjlanomebonaa.HandAll
end

section
set_option linter.unusedVariables false
set_option linter.unusedSimpArgs false
namespace Go.Proofs.Ytabjlanomebonaa.Wk
open Go.RowKit Go.Proofs.YtabjlanomebonaaW.PrintWords Go.Proofs.YtabjlanomebonaaW.PrintLast Go.Proofs.YtabjlanomebonaaW.PrintMore Go.Proofs.Ytabjlanomebonaa.Core
end Go.Proofs.Ytabjlanomebonaa.Wk
namespace Go.Proofs.Ytabjlanomebonaa.Core
open Go.RowKit Go.Proofs.YtabjlanomebonaaW.PrintWords Go.Proofs.YtabjlanomebonaaW.PrintLast Go.Proofs.YtabjlanomebonaaW.PrintMore
section
variable {M M' F : Nat → Prop} {w w1 w2 W W' : World} {P Q : World → Prop} {g : Nat}
theorem Ext.blk {o : Obj} (h : Ext F W W') (hb : W.heap[g]? = some o) (hg : ¬ F g) : W'.heap[g]? = some o := (h.block g (blk_lt hb) hg).trans hb
theorem Ext.sub (h : Ext F W W') (hs : ∀ k, F k → M k) : Ext M W W' := h.mono (fun k _ e => hs k e)
theorem Ext.step (h : Ext M w W) (k : Ext F W W') (hF : ∀ k, F k → M k ∨ w.heap.size ≤ k) : Ext M w W' := h.grow k hF
def Ms (gs : List Nat) (k : Nat) : Prop := k ∈ gs
theorem Ms.old {r : Nat} {gs : List Nat} : ∀ k, Ms gs k → Ms (r :: gs) k := fun _ h => List.mem_cons_of_mem _ h
theorem Ms.lt (gs : List Nat) {n n' : Nat} (h : ∀ k, Ms gs k → k < n) (hn : n ≤ n') : ∀ k, Ms gs k → k < n' := fun k hk => Nat.lt_of_lt_of_le (h k hk) hn
theorem C_cell {xs : List Int} {k : IntKind} {A : Option Addr} (h : Kd.C (Kd.int k) W A xs.length xs) (hn : 0 < xs.length) : ∃ ad, A = some ad ∧ ∀ j, j < xs.length → W.cell? (ad.add j) = some (.int k (xs.getD j 0)) := (Kd.reads_of_C h).2.2 hn
end
end Go.Proofs.Ytabjlanomebonaa.Core
namespace Go.Proofs.Ytabjlanomebonaa.Wk
open Go.RowKit Go.Proofs.YtabjlanomebonaaW.PrintWords Go.Proofs.YtabjlanomebonaaW.PrintLast Go.Proofs.YtabjlanomebonaaW.PrintMore Go.Proofs.Ytabjlanomebonaa.Core
section
variable {P : Program} {ops : Array Oper} {rest : List Oper} {o : Oper} {a : Act} {Q : Exit → Act → World → Prop} {W : World} {Kc : Act → World → Prop}
end
def keyIs (k : Int) (e : MapEntry) : Bool := match e.key with | .int .i64 a => a == k | _ => false
def mget (es : List MapEntry) (k : Int) : Option Value := (es.find? (keyIs k)).map (·.val)
def IntKeys (es : List MapEntry) : Prop := ∀ e ∈ es, ∃ a, e.key = .int .i64 a
structure IsMap (W : World) (m : Nat) (f : Int → Option Value) (n : Nat) : Prop where
  out : ∃ (es : Array MapEntry) (clock : Nat), W.heap[m]? = some (.map es clock) ∧ IntKeys es.toList ∧ es.size ≤ n ∧ ∀ k, mget es.toList k = f k
section
variable {P : Program} {W W' : World} {m n : Nat} {f : Int → Option Value}
theorem IsMap.lt (h : IsMap W m f n) : m < W.heap.size := by obtain ⟨es, c, hb, _⟩ := h.out; exact (Array.getElem?_eq_some_iff.1 hb).1
theorem IsMap.ext {F : Nat → Prop} (h : IsMap W m f n) (k : Ext F W W') (hm : ¬ F m) : IsMap W' m f n := by
  obtain ⟨es, c, hb, h1⟩ := h.out
  exact ⟨es, c, Ext.blk k hb hm, h1⟩
end
section
variable {P : Program} {ops : Array Oper} {rest : List Oper} {o : Oper} {a : Act} {Q : Exit → Act → World → Prop} {W : World}
end
end Go.Proofs.Ytabjlanomebonaa.Wk
end

section
namespace Go.Proofs.Ytabjlanomebonaa.FdA
open Go.RowKit Go.Proofs.YtabjlanomebonaaW.PrintWords Go.Proofs.YtabjlanomebonaaW.PrintLast Go.Proofs.YtabjlanomebonaaW.PrintMore Go.Proofs.Ytabjlanomebonaa.Core Go.Proofs.Ytabjlanomebonaa.Wk Go.Proofs.Ytabjlanomebonaa.Ext Go.Proofs.Ytabjlanomebonaa.ExtG Go.Proofs.Ytabjlanomebonaa.StrA Go.Proofs.Ytabjlanomebonaa.StrB Go.Proofs.Ytabjlanomebonaa.StrC
set_option linter.unusedVariables false
set_option linter.unusedSimpArgs false
theorem wrap64_of {x : Int} (h0 : -1000000000000 ≤ x) (h1 : x ≤ 9223372036854775807) : wrap64 x = x := by
  unfold wrap64
  omega
theorem relb {k n : Nat} (h : k < n) (hb : n ≤ 9223372036854775807) : Value.int .i64 (wrap64 ((k : Int) + 1)) = Value.int .i64 ((k + 1 : Nat) : Int) := by
  rw [wrap64_of (by omega) (by omega)]
  exact congrArg (Value.int .i64) (by omega)
theorem measb {c k : Nat} (h : k < c) (hb : c ≤ 9223372036854775807) : c - (intOf (.int .i64 (wrap64 ((k : Int) + 1)))).toNat < c - (intOf (.int .i64 (k : Int))).toNat := by
  rw [wrap64_of (x := (k : Int) + 1) (by omega) (by omega)]
  simp only [intOf]
  omega
theorem rowR {M : Nat → Prop} {W : World} {A : Option Addr} {n : Nat} {ls : List (List Int)} (h : RowE (Kd.slice 5 (Kd.int .u8)) M W A n ls) {j : Nat} (hj : j < n) : ∃ ad A0 cc, A = some ad ∧ (ls.getD j []).length ≤ cc ∧ Ever M W (fun W => Kd.C (Kd.int .u8) W A0 (ls.getD j []).length (ls.getD j [])) ∧ W.cell? (ad.add j) = some (.slice A0 (ls.getD j []).length cc) := by
  obtain ⟨ad, inner, rfl, h1, h2⟩ := h.2.2 (by omega)
  have hx : ls[j]? = some (ls.getD j []) := by rw [List.getD_eq_getElem?_getD, List.getElem?_eq_getElem (by rw [h.1]; exact hj)]; rfl
  have hr := h1.2 j _ hx
  obtain ⟨A0, cc, hcs, hl, _⟩ := hr.2.now
  refine ⟨ad, A0, cc, rfl, hl, ⟨fun W' k => ?_⟩, ?_⟩
  · obtain ⟨A1, c1, hcs1, _, hv⟩ := hr.2.at_ W' k
    rw [hcs] at hcs1
    simp only [List.cons.injEq, Value.slice.injEq, and_true, true_and] at hcs1
    rw [hcs1.1]
    exact hv
  · have hq := h2.now (j * 1) (.slice A0 (ls.getD j []).length cc) (by
      have e := congrArg (fun l => l[0]?) hcs
      simp only [List.getElem?_cons_zero] at e
      rw [List.getElem?_take, if_pos (by decide), List.getElem?_drop] at e
      exact e)
    rwa [Nat.mul_one] at hq
def lens (ls : List (List Int)) (k : Nat) : Nat := ((ls.take k).map List.length).sum
theorem lens_succ {ls : List (List Int)} {k : Nat} (hk : k < ls.length) : lens ls (k + 1) = lens ls k + (ls.getD k []).length := by
  unfold lens
  rw [List.take_succ_eq_append_getElem hk, List.map_append, List.sum_append, List.getD_eq_getElem?_getD, List.getElem?_eq_getElem hk]
  simp
theorem lens_le {ls : List (List Int)} (hb : ∀ l ∈ ls, l.length ≤ 140737488355328) : ∀ k, k ≤ ls.length → lens ls k ≤ 140737488355328 * k
  | 0, _ => by simp [lens]
  | k + 1, hk => by
    have ih := lens_le hb k (by omega)
    have h1 := hb (ls.getD k []) (by rw [List.getD_eq_getElem?_getD, List.getElem?_eq_getElem (by omega)]; exact List.getElem_mem _)
    rw [lens_succ (by omega)]
    omega
theorem lens_part {ls : List (List Int)} {k : Nat} (hk : k < ls.length) : lens ls k + (ls.getD k []).length ≤ lens ls ls.length := by
  have mono : ∀ d j, j + d ≤ ls.length → lens ls j ≤ lens ls (j + d) := by
    intro d
    induction d with
    | zero => intro j _; exact Nat.le_refl _
    | succ d ih =>
      intro j hj
      have h1 := ih j (by omega)
      have h2 := lens_succ (ls := ls) (k := j + d) (by omega)
      rw [show j + (d + 1) = j + d + 1 by omega, h2]
      omega
  have h1 := mono (ls.length - (k + 1)) (k + 1) (by omega)
  rw [show k + 1 + (ls.length - (k + 1)) = ls.length by omega, lens_succ hk] at h1
  exact h1
def fewV (ls : List (List Int)) : Prop := ls.length ≤ 200 ∧ lens ls ls.length ≤ 5000
set_option maxHeartbeats 8000000 in
set_option maxRecDepth 100000 in
theorem few_big {M : Nat → Prop} {A : Option Addr} {cc : Nat} {ls : List (List Int)} {n : Nat} {w : World} (h : RowE (Kd.slice 5 (Kd.int .u8)) M w A n ls) (hn : ls.length = n) (hb : ∀ l ∈ ls, l.length ≤ 140737488355328) (hs : ¬ n ≤ 200) : Calls Try.prog 22 #[.slice A n cc] w fun e w' => e = .returned (.bool false) ∧ w = w' := by
  have H := Aside0.mk h; have HN := Aside0.mk hn; have HB := Aside0.mk hb; have hmx : n ≤ 9223372036854775807 := h.2.1
  clear h hn hb
  have HM := Aside0.mk hmx
  have q1 : decide ((n : Int) ≤ 200) = false := decide_eq_false (by omega); have q2 : decide (n ≤ 200) = false := decide_eq_false (by omega)
  go_enter Try.func22, Try.ntmps22
  go_wp2
  go_loopw [3, 4] (fun u v wr => ∃ (k : Nat) (s : Int), k ≤ n ∧ u = .int .i64 s ∧ v = .int .i64 k ∧ Aside0 (True) ∧ Aside0 (w = wr)) (fun _ v _ => n - (intOf v).toNat)
  case atStart => exact ⟨0, 0, by omega, rfl, rfl, ⟨trivial⟩, ⟨rfl⟩⟩
  case round =>
    obtain ⟨k, s, hk, rfl, rfl, HS, HW⟩ := hrel
    have hw := HW.out; subst hw; clear HW
    by_cases hlt : k < n
    · have s1 : decide (k < n) = true := decide_eq_true hlt
      have s2 : decide ((k : Int) < (n : Int)) = true := decide_eq_true (by omega)
      have HK : Aside0 (k < n) := ⟨hlt⟩
      obtain ⟨ad, A0, c0, e_, hl, hv, hc⟩ := rowR H.out hlt
      cases e_
      clear hv hl
      have hk0 : (0 : Int) ≤ (k : Int) := (by omega); have hk1 : (k : Int) < (n : Int) := (by omega); have hk2 : (k < n) = True := eq_true hlt
      obtain ⟨m, hm⟩ : ∃ m, (ls.getD k []).length = m := ⟨_, rfl⟩
      rw [hm] at hc
      have HMM := Aside0.mk hm
      clear hm hlt hk
      go_wp2
      go_roundw
      case rel => exact ⟨k + 1, _, by have := HK.out; omega, rfl, (by first | exact relb HK.out (by have := HM.out; omega) | go_num), ⟨trivial⟩, ⟨trivial⟩⟩
      case measure => first | exact measb HK.out (by have := HM.out; omega) | (have := HK.out; simp [intOf]; omega)
    · have s1 : decide (k < n) = false := decide_eq_false hlt
      have s2 : decide ((k : Int) < (n : Int)) = false := decide_eq_false (by omega)
      go_wp2
      go_ret
      exact ⟨rfl, rfl⟩
set_option maxHeartbeats 8000000 in
set_option maxRecDepth 100000 in
theorem few_ok {M : Nat → Prop} {A : Option Addr} {cc : Nat} {ls : List (List Int)} {n : Nat} {w : World} (h : RowE (Kd.slice 5 (Kd.int .u8)) M w A n ls) (hn : ls.length = n) (hb : ∀ l ∈ ls, l.length ≤ 140737488355328) (hs : n ≤ 200) : Calls Try.prog 22 #[.slice A n cc] w fun e w' => e = .returned (.bool (decide (((lens ls ls.length : Nat) : Int) ≤ 5000))) ∧ w = w' := by
  have H := Aside0.mk h; have HN := Aside0.mk hn; have HB := Aside0.mk hb; have hmx : n ≤ 9223372036854775807 := h.2.1
  clear h hn hb
  have q1 : decide ((n : Int) ≤ 200) = true := decide_eq_true (by omega); have q2 : decide (n ≤ 200) = true := decide_eq_true (by omega)
  have HM : Aside0 (n ≤ 200) := ⟨hs⟩
  go_enter Try.func22, Try.ntmps22
  go_wp2
  go_loopw [3, 4] (fun u v wr => ∃ (k : Nat) (s : Int), k ≤ n ∧ u = .int .i64 s ∧ v = .int .i64 k ∧ Aside0 (s = (lens ls k : Nat)) ∧ Aside0 (w = wr)) (fun _ v _ => n - (intOf v).toNat)
  case atStart => exact ⟨0, 0, by omega, rfl, rfl, ⟨by simp [lens]⟩, ⟨rfl⟩⟩
  case round =>
    obtain ⟨k, s, hk, rfl, rfl, HS, HW⟩ := hrel
    have hw := HW.out; subst hw; clear HW
    by_cases hlt : k < n
    · have s1 : decide (k < n) = true := decide_eq_true hlt
      have s2 : decide ((k : Int) < (n : Int)) = true := decide_eq_true (by omega)
      have HK : Aside0 (k < n) := ⟨hlt⟩
      obtain ⟨ad, A0, c0, e_, hl, hv, hc⟩ := rowR H.out hlt
      cases e_
      clear hv hl
      have hk0 : (0 : Int) ≤ (k : Int) := (by omega); have hk1 : (k : Int) < (n : Int) := (by omega); have hk2 : (k < n) = True := eq_true hlt
      obtain ⟨m, hm⟩ : ∃ m, (ls.getD k []).length = m := ⟨_, rfl⟩
      rw [hm] at hc
      have HMM := Aside0.mk hm
      clear hm hlt hk
      go_wp2
      go_roundw
      case rel => exact ⟨k + 1, _, by have := HK.out; omega, rfl, (by first | exact relb HK.out (by have := HM.out; omega) | go_num), ⟨by have h1 := lens_le HB.out k (by rw [HN.out]; have := HK.out; omega); have h2 := HMM.out; have h3 := HB.out (ls.getD k []) (by rw [List.getD_eq_getElem?_getD, List.getElem?_eq_getElem (by rw [HN.out]; exact HK.out)]; exact List.getElem_mem _); have h4 := HM.out; have h5 := HK.out; rw [lens_succ (by rw [HN.out]; exact HK.out), HS.out, h2, wrap64_of (by omega) (by omega)]; omega⟩, ⟨trivial⟩⟩
      case measure => first | exact measb HK.out (by have := HM.out; omega) | (have := HK.out; simp [intOf]; omega)
    · have s1 : decide (k < n) = false := decide_eq_false hlt
      have s2 : decide ((k : Int) < (n : Int)) = false := decide_eq_false (by omega)
      have hkn : k = n := by omega
      have HSN : Aside0 (s = (lens ls ls.length : Nat)) := ⟨by rw [HS.out, hkn, HN.out]⟩
      clear HS hkn hlt hk
      go_wp2
      go_ret
      refine ⟨?_, rfl⟩
      rw [HSN.out]
      first | rfl | (congr 1; congr 1; exact decide_eq_decide.2 (by omega))
theorem few_b {M : Nat → Prop} {A : Option Addr} {cc : Nat} {ls : List (List Int)} {n : Nat} {w : World} (h : RowE (Kd.slice 5 (Kd.int .u8)) M w A n ls) (hn : ls.length = n) (hb : ∀ l ∈ ls, l.length ≤ 140737488355328) : ∃ b, (Calls Try.prog 22 #[.slice A n cc] w fun e w' => e = .returned (.bool b) ∧ w = w') ∧ (b = true → fewV ls) := by
  by_cases hs : n ≤ 200
  · refine ⟨_, few_ok h hn hb hs, fun hb => ⟨by omega, ?_⟩⟩
    have := of_decide_eq_true hb
    omega
  · exact ⟨false, few_big h hn hb hs, fun h => by cases h⟩
end Go.Proofs.Ytabjlanomebonaa.FdA
end

section
namespace Go.Proofs.Ytabjlanomebonaa.PB
open Go.RowKit Go.Proofs.YtabjlanomebonaaW.PrintWords Go.Proofs.YtabjlanomebonaaW.PrintLast Go.Proofs.YtabjlanomebonaaW.PrintMore
attribute [local go_sem] max2_int min2_int max_two min_two max_three min_three max_four min_four   
set_option linter.unusedVariables false
set_option linter.unusedSimpArgs false
open Go.Proofs.Ytabjlanomebonaa.Ext Go.Proofs.Ytabjlanomebonaa.ExtC
def basculeref01_Both.f (l0 : List Int) (l1 : List Int) : Option (List Int) := if ([] : List Int).length + l0.length < 140737488355328 then ((some (([] : List Int) ++ l0 : List Int)).bind fun y119 => (if y119.length + l1.length < 140737488355328 then (some (y119 ++ l1)) else (none))) else (none)
set_option maxHeartbeats 8000000 in
set_option maxRecDepth 100000 in
theorem basculeref01_Both.calls (A0 : Option Addr) (c0 : Nat) (l0 : List Int) (A1 : Option Addr) (c1 : Nat) (l1 : List Int) (r : List Int) (w : World) (hr0 : Kd.C (Kd.int .u8) w A0 l0.length l0) (hc0 : l0.length ≤ c0) (hr1 : Kd.C (Kd.int .u8) w A1 l1.length l1) (hc1 : l1.length ≤ c1) (h : basculeref01_Both.f l0 l1 = some r) :
    Calls Try.prog 26 #[.slice A0 l0.length c0, .slice A1 l1.length c1] w fun e w' => ∃ v0_ : Value, e = .returned (v0_) ∧ Kd.R (Kd.int .u8) 5 w' w.heap.size (fun _ => True) v0_ r ∧ Below w.heap.size w w' := by
  have HR0 := Aside0.mk hr0
  have HC0 := Aside0.mk hc0
  clear hr0 hc0
  have HR1 := Aside0.mk hr1
  have HC1 := Aside0.mk hc1
  clear hr1 hc1
  have HB := Aside0.mk (Below.refl w.heap.size w)
  have H : (if ([] : List Int).length + l0.length < 140737488355328 then ((some (([] : List Int) ++ l0 : List Int)).bind fun y119 => (if y119.length + l1.length < 140737488355328 then (some (y119 ++ l1)) else (none))) else (none)) = some r := h
  clear h
  by_cases c3 : ([] : List Int).length + l0.length < 140737488355328
  · rw [if_pos c3] at H
    have LMc3 := Aside0.mk c3
    clear c3
    obtain ⟨y119, hy119⟩ : ∃ y_ : List Int, y_ = (([] : List Int) ++ l0) := ⟨_, rfl⟩
    replace H : (if y119.length + l1.length < 140737488355328 then (some (y119 ++ l1)) else (none)) = some r := by first | (rw [hy119]; with_reducible exact H) | (have H2_ := (Option.bind_some _ _).symm.trans H; rw [hy119]; with_reducible exact H2_) | (have H2_ := (Option.bind_some _ _).symm.trans H; with_reducible exact H2_) | with_reducible exact H | (rw [hy119]; exact H) | exact H
    have Ny119 := Aside0.mk hy119
    clear hy119
    by_cases c4 : y119.length + l1.length < 140737488355328
    · rw [if_pos c4] at H
      have LMc4 := Aside0.mk c4
      clear c4
      obtain ⟨y122, hy122⟩ : ∃ y_ : List Int, y_ = (y119 ++ l1) := ⟨_, rfl⟩
      replace H : (some y122) = some r := by first | (rw [hy122]; with_reducible exact H) | (have H2_ := (Option.bind_some _ _).symm.trans H; rw [hy122]; with_reducible exact H2_) | (have H2_ := (Option.bind_some _ _).symm.trans H; with_reducible exact H2_) | with_reducible exact H | (rw [hy122]; exact H) | exact H
      have Ny122 := Aside0.mk hy122
      clear hy122
      obtain rfl := Option.some.inj H
      go_enter Try.func26, Try.ntmps26
      go_wp2_with (first | ((with_reducible refine gate_builtin (b := .append) (xs := #[.tmp 6, .tmp 7]) rfl ?_); at_builtin; refine Kd.R_append_rows (Kd.int .u8) (w0 := w) w.heap.size rfl (.tmp 6) (.tmp 7) 22 5 (.int .u8 0) 1 rfl Try.underlying22 info5 rfl (by decide) (by omega) (.slice none 0 0) ([] : List Int) l0 _ _ _ (fun _ => True) (fun _ => False) rfl rfl ?aO ?aR (fun _ _ h => h) (fun _ h => h.elim) ?aF ?aB ?aS ?aL ?_; (case aR => repeat (first | exact HR0.out | (with_reducible refine Kd.C_alloc ?_ _) | (with_reducible refine Kd.C_drewN ?_ _) | (with_reducible refine Kd.C_drew ?_))); (case aB => exact (by repeat (first | (with_reducible first | exact HB.out | apply below_alloc | apply pw_below_drewN | apply below_drew1) | exact HB.out))); (case aF => exact (fun _ _ => trivial)); (case aO => exact ((Kd.R_nil _ _ _ _ (fun _ => True)))); (case aS => exact (below_size (by repeat (first | (with_reducible first | exact HB.out | apply below_alloc | apply pw_below_drewN | apply below_drew1) | exact HB.out)))); (case aL => have := LMc3.out; omega); intro v120 w5 ho hb hg hat; rw [← Ny119.out] at ho; have n0_ := Aside0.mk (hb); have n1_ := Aside0.mk (ho); clear HB; have HB := n0_; have HO121 := n1_; clear n0_ n1_; clear ho hb hg hat) | ((with_reducible refine gate_builtin (b := .append) (xs := #[.tmp 9, .tmp 10]) rfl ?_); at_builtin; refine Kd.R_append_rows (Kd.int .u8) (w0 := w) w.heap.size rfl (.tmp 9) (.tmp 10) 22 5 (.int .u8 0) 1 rfl Try.underlying22 info5 rfl (by decide) (by omega) v120 y119 l1 _ _ _ (fun _ => True) (fun _ => False) rfl rfl ?aO ?aR (fun _ _ h => h) (fun _ h => h.elim) ?aF ?aB ?aS ?aL ?_; (case aR => repeat (first | exact (Kd.C_below HR1.out HB.out) | (with_reducible refine Kd.C_alloc ?_ _) | (with_reducible refine Kd.C_drewN ?_ _) | (with_reducible refine Kd.C_drew ?_))); (case aB => exact (by repeat (first | (with_reducible first | exact HB.out | apply below_alloc | apply pw_below_drewN | apply below_drew1) | exact HB.out))); (case aF => exact (fun _ _ => trivial)); (case aO => exact (by (with_reducible repeat (first | apply Kd.R_alloc | apply Kd.R_drewN | apply Kd.R_drew)); exact HO121.out)); (case aS => exact (below_size (by repeat (first | (with_reducible first | exact HB.out | apply below_alloc | apply pw_below_drewN | apply below_drew1) | exact HB.out)))); (case aL => have := LMc4.out; omega); intro v123 w6 ho hb hg hat; rw [← Ny122.out] at ho; have n0_ := Aside0.mk (hb); have n1_ := Aside0.mk (ho); clear HB; clear HO121; have HB := n0_; have HO124 := n1_; clear n0_ n1_; clear ho hb hg hat))
      go_ret
      exact ⟨_, by first | rfl | (simp [errW_none, errW_some] <;> rfl) | (simp [*, errW_none, errW_some] <;> rfl), by (with_reducible repeat (first | apply Kd.R_alloc | apply Kd.R_drewN | apply Kd.R_drew)); exact HO124.out, by repeat (first | (with_reducible first | exact HB.out | apply below_alloc | apply pw_below_drewN | apply below_drew1) | exact HB.out)⟩
    · rw [if_neg c4] at H
      exact absurd H (by simp)
  · rw [if_neg c3] at H
    exact absurd H (by simp)
end Go.Proofs.Ytabjlanomebonaa.PB
end

section
namespace Go.Proofs.Ytabjlanomebonaa.FdB
open Go.RowKit Go.Proofs.YtabjlanomebonaaW.PrintWords Go.Proofs.YtabjlanomebonaaW.PrintLast Go.Proofs.YtabjlanomebonaaW.PrintMore Go.Proofs.Ytabjlanomebonaa.Core Go.Proofs.Ytabjlanomebonaa.Wk Go.Proofs.Ytabjlanomebonaa.Ext Go.Proofs.Ytabjlanomebonaa.ExtC Go.Proofs.Ytabjlanomebonaa.ExtG Go.Proofs.Ytabjlanomebonaa.StrA Go.Proofs.Ytabjlanomebonaa.StrB Go.Proofs.Ytabjlanomebonaa.StrC Go.Proofs.Ytabjlanomebonaa.FdA Go.Proofs.Ytabjlanomebonaa.PB Go.Proofs.Ytabjlanomebonaa.MthF
set_option linter.unusedVariables false
set_option linter.unusedSimpArgs false
set_option maxHeartbeats 8000000 in
set_option maxRecDepth 100000 in
theorem sfeed2 (M : Nat → Prop) (g : Nat) (rest b : List Int) (A2 : Option Addr) (c2 : Nat) (w : World) (hM : M g) (hMb : ∀ k, M k → k < w.heap.size) (h : IsStream M w g rest false) (hV : Kd.C (Kd.int .u8) w A2 b.length b) (hb1 : Bytes rest) (hb2 : Bytes b) (hl1 : rest.length ≤ 1000000) (hl2 : b.length ≤ 1000000)
    (K : Nat) (hK : rest.length + b.length < K) (fs : List PZ.S37) (r : List Int) (br : Bool) (hr : allF K (rest ++ b) = (fs, r, br)) :
    Calls Try.prog 24 #[.pointer (some ⟨g, 0, none⟩), .slice A2 b.length c2] w fun e w' => ∃ v', e = .returned (.tuple #[v', .int .i64 (if br = true then 50 else 0)]) ∧ IsRow PZ.k37 M w' v' fs ∧ IsStream M w' g r br ∧ Ext (fun k => k = g) w w' := by
  obtain ⟨A, c, hb, hc, hv⟩ := h
  have hu72 := Try.underlying72
  have hu37 := Try.underlying37
  have BK := Aside0.mk hb; have HV := Aside0.mk hv; have HV2 := Aside0.mk hV; have HC := Aside0.mk hc; have HM := Aside0.mk hM; have HMB := Aside0.mk hMb
  have hcz0 : w.cell? ⟨g, 0, none⟩ = some (.slice A rest.length c) := (blk_cell BK.out 0).trans rfl; have hcz1 : w.cell? ⟨g, 1, none⟩ = some (.bool false) := (blk_cell BK.out 1).trans rfl; have hfz0 := blk_frozen BK.out 0
  have HBY : Aside0 (Bytes (rest ++ b)) := ⟨fun x hx => by rcases List.mem_append.1 hx with a | a; exact hb1 x a; exact hb2 x a⟩
  have hly : Aside0 ((rest ++ b).length < K ∧ (rest ++ b).length ≤ 2000000) := ⟨by rw [List.length_append]; omega⟩
  have HR := Aside0.mk hr
  clear hb hc hv hM hMb hV hb1 hb2 hr
  go_enter Try.func24, Try.ntmps24
  go_wp2_with (go_at_call 34; refine (concat2 A A2 c c2 rest b _ 2 _ ?k1 ⟨HV.out.at_ _ ((Ext.refl _ _).alloc _)⟩ ⟨Kd.C_alloc HV2.out _⟩ (by omega) (by omega)).mono ?_; (case k1 => exact new_blk rfl); rintro e w4 ⟨v4, rfl, HR4, HB4⟩; generalize hy : rest ++ b = y at HR4 HR HBY hly; clear hy; obtain ⟨A4, c4, rfl, hc4, HV4⟩ := Ever.made (M := M) HR4 (fun k hk => Ext.lt_ (M := M) ((Ext.refl _ _).alloc _) (HMB.out k hk)); have HV4 := Aside0.mk HV4; have HC4 := Aside0.mk hc4; have BK4 : Aside0 (w4.heap[g]? = some (.cells #[.slice A rest.length c, .bool false] 72 (0, 0))) := Aside0.mk (blk_below (g := g) (blk_alloc BK.out _) HB4); have HE4 : Aside0 (Ext (fun k => k = g) w w4) := ⟨Ext.then_below ((Ext.refl _ _).alloc _) HB4⟩; clear HR4 HB4 hc4; have hcy0 : w4.cell? ⟨g, 0, none⟩ = some (.slice A rest.length c) := (blk_cell BK4.out 0).trans rfl; have hfy0 := blk_frozen BK4.out 0)
  have HS : Aside0 (IsStream (Mv M (.slice none 0 0)) (w4.setCell ⟨g, 0, none⟩ (.slice A4 y.length c4)) g y false) := ⟨⟨A4, c4, blk_put BK4.out 0 _ rfl, HC4.out, HV4.out.grow ((Ext.refl _ _).set HM.out _) (fun k hk => hk.elim .inl (fun e => by simp [Value.ownBlock] at e))⟩⟩
  have HE5 : Aside0 (Ext (fun k => k = g) w (w4.setCell ⟨g, 0, none⟩ (.slice A4 y.length c4))) := ⟨HE4.out.setg _⟩
  clear BK HV HV2 HC hcz0 hcz1 hfz0 HV4 HC4 BK4 HE4 hcy0 hfy0
  go_loopg [6] K (fun kq v6 wr => ∃ (out ft : List PZ.S37) (rs : List Int), Aside0 (allF kq rs = (ft, r, br)) ∧ Aside0 (out ++ ft = fs) ∧ Aside0 (Bytes rs) ∧ rs.length < kq ∧ rs.length ≤ 2000000 ∧ out.length + rs.length ≤ 2000000 ∧ Aside0 (kq ≤ K) ∧ Aside0 (OwnE PZ.k37 M 37 w.heap.size wr v6 out) ∧ Aside0 (IsStream (Mv M v6) wr g rs false) ∧ Aside0 (Ext (fun k => k = g) w wr))
  case atStart => exact ⟨[], fs, y, HR, ⟨rfl⟩, HBY, hly.out.1, hly.out.2, by have := hly.out.2; simpa using this, ⟨Nat.le_refl _⟩, ⟨OwnE.nil _ _ _ _ _⟩, HS, HE5⟩
  case round =>
    clear HR HBY hly HS HE5
    obtain ⟨out, ft, rs, HR, HF, HBY, hk, hl, hol, HKK, HO, HS, HE⟩ := hrel
    cases gk with
    | zero => omega
    | succ k1 =>
      have hgw : g < w.heap.size := HMB.out g HM.out
      have hown : Aside0 (∀ k, u6.ownBlock = some k → k ≠ g) := ⟨fun k hk e => by have := HO.out.base_le k hk; omega⟩
      have HML : Aside0 (∀ k, Mv M u6 k → k < wr.heap.size) := ⟨fun k hk => by rcases hk with a | a; exact HE.out.lt_ (HMB.out k a); exact HO.out.lt k a.symm⟩
      have hXX : ∀ {w5 : World}, Ext (fun k => k = g) wr w5 → OwnE PZ.k37 M 37 w.heap.size w5 u6 out := fun k => HO.out.step (Ext.toM (.inl HM.out) k) (fun b hb => k.block b (HO.out.lt b hb) (hown.out b hb))
      have HXX := Aside0.mk @hXX
      clear hXX
      have hre := HR.out
      clear HR
      unfold allF at hre
      by_cases h6 : rs.length < 6
      · rw [if_pos h6] at hre
        simp only [Prod.mk.injEq] at hre
        obtain ⟨rfl, rfl, rfl⟩ := hre
        have HST : Aside0 (rs.length < 6 ∨ (¬ bad rs ∧ (rs.length : Int) < 6 + wd rs 4)) := ⟨(.inl h6)⟩
        go_wp2_with (go_at_call 38; (refine (next_stop (Mv M u6) g rs _ (.inl HM.out) HS.out HBY.out (by omega) HST.out).mono ?_; rintro e w5 ⟨rfl, hs5, hx5⟩; have HS5 := Aside0.mk hs5; have HX5 := Aside0.mk hx5; obtain ⟨A6, c6, hb6, _, _⟩ := hs5; have hq1 : w5.cell? ⟨g, 1, none⟩ = some (.bool false) := (blk_cell hb6 1).trans rfl; clear hb6; have hgl : g < w5.heap.size := isStream_lt HS5.out; clear hx5))
        go_ret2
        have HO7 := HXX.out HX5.out; obtain ⟨A7, c7, e7, hc7, hr7⟩ := HO7.row (fun k hk hm => absurd (HO7.base_le k hk) (Nat.not_le.2 (HMB.out k hm))); exact ⟨_, rfl, IsRow.step (by rw [← HF.out, List.append_nil]; exact ⟨A7, c7, e7, hc7, hr7⟩) ((Ext.refl _ _).alloc _), isStream_grow HS5.out ((Ext.refl _ _).alloc _) (fun k hk => .inl (.inl hk)) (by obtain ⟨_, _, h1, _⟩ := HS5.out; exact (blk_alloc h1 _).trans h1.symm), (HE.out.trans HX5.out).alloc _⟩
      rw [if_neg h6] at hre
      by_cases hbd : bad rs
      · rw [if_pos hbd] at hre
        simp only [Prod.mk.injEq] at hre
        obtain ⟨rfl, rfl, rfl⟩ := hre
        have HBD := Aside0.mk hbd
        clear hbd
        go_wp2_with (go_at_call 38; (refine (next_bad (Mv M u6) g rs _ (.inl HM.out) HS.out HBY.out (by omega) (by omega) HBD.out).mono ?_; rintro e w5 ⟨rfl, hs5, hx5⟩; have HS5 := Aside0.mk hs5; have HX5 := Aside0.mk hx5; obtain ⟨A6, c6, hb6, _, _⟩ := hs5; have hq1 : w5.cell? ⟨g, 1, none⟩ = some (.bool true) := (blk_cell hb6 1).trans rfl; clear hb6; have hgl : g < w5.heap.size := isStream_lt HS5.out; clear hx5))
        go_ret2
        have HO7 := HXX.out HX5.out; obtain ⟨A7, c7, e7, hc7, hr7⟩ := HO7.row (fun k hk hm => absurd (HO7.base_le k hk) (Nat.not_le.2 (HMB.out k hm))); exact ⟨_, rfl, IsRow.step (by rw [← HF.out, List.append_nil]; exact ⟨A7, c7, e7, hc7, hr7⟩) ((Ext.refl _ _).alloc _), isStream_grow HS5.out ((Ext.refl _ _).alloc _) (fun k hk => .inl (.inl hk)) (by obtain ⟨_, _, h1, _⟩ := HS5.out; exact (blk_alloc h1 _).trans h1.symm), (HE.out.trans HX5.out).alloc _⟩
      rw [if_neg hbd] at hre
      by_cases hsh : (rs.length : Int) < 6 + wd rs 4
      · rw [if_pos hsh] at hre
        simp only [Prod.mk.injEq] at hre
        obtain ⟨rfl, rfl, rfl⟩ := hre
        have HST : Aside0 (rs.length < 6 ∨ (¬ bad rs ∧ (rs.length : Int) < 6 + wd rs 4)) := ⟨(.inr ⟨hbd, hsh⟩)⟩
        go_wp2_with (go_at_call 38; (refine (next_stop (Mv M u6) g rs _ (.inl HM.out) HS.out HBY.out (by omega) HST.out).mono ?_; rintro e w5 ⟨rfl, hs5, hx5⟩; have HS5 := Aside0.mk hs5; have HX5 := Aside0.mk hx5; obtain ⟨A6, c6, hb6, _, _⟩ := hs5; have hq1 : w5.cell? ⟨g, 1, none⟩ = some (.bool false) := (blk_cell hb6 1).trans rfl; clear hb6; have hgl : g < w5.heap.size := isStream_lt HS5.out; clear hx5))
        go_ret2
        have HO7 := HXX.out HX5.out; obtain ⟨A7, c7, e7, hc7, hr7⟩ := HO7.row (fun k hk hm => absurd (HO7.base_le k hk) (Nat.not_le.2 (HMB.out k hm))); exact ⟨_, rfl, IsRow.step (by rw [← HF.out, List.append_nil]; exact ⟨A7, c7, e7, hc7, hr7⟩) ((Ext.refl _ _).alloc _), isStream_grow HS5.out ((Ext.refl _ _).alloc _) (fun k hk => .inl (.inl hk)) (by obtain ⟨_, _, h1, _⟩ := HS5.out; exact (blk_alloc h1 _).trans h1.symm), (HE.out.trans HX5.out).alloc _⟩
      rw [if_neg hsh] at hre
      simp only [Prod.mk.injEq] at hre
      obtain ⟨hft, hrr⟩ := hre
      have e0 : wd rs 2 = 0 := Classical.byContradiction fun a => hbd (.inl a)
      have e1 : ¬ wd rs 4 < 2 := fun a => hbd (.inr (.inl a))
      have e2 : ¬ 254 < wd rs 4 := fun a => hbd (.inr (.inr a))
      have HN := Aside0.mk (fun W5 (hh : IsStream (Mv M u6) W5 g rs false) => next_full (Mv M u6) g rs W5 (.inl HM.out) hh HBY.out (by omega) (by omega) e0 (by omega) (by omega) (by omega))
      have hrl : (restOf rs).length + 8 ≤ rs.length := by unfold restOf; rw [List.length_drop]; omega
      have HRB : Aside0 (Bytes (restOf rs)) := ⟨fun x hx => HBY.out x (List.mem_of_mem_drop hx)⟩
      have HFT : Aside0 (out ++ ⟨wd rs 0, rd rs 6, pduOf rs⟩ :: (allF k1 (restOf rs)).1 = fs) := ⟨by rw [hft]; exact HF.out⟩
      have HRR : Aside0 (allF k1 (restOf rs) = ((allF k1 (restOf rs)).1, r, br)) := ⟨by rw [← hrr]⟩
      clear hft hrr hbd hsh e0 e1 e2 h6 HF
      generalize (allF k1 (restOf rs)).1 = f1 at HFT HRR
      generalize wd rs 0 = t_ at HN HFT
      generalize rd rs 6 = u_ at HN HFT
      generalize pduOf rs = p_ at HN HFT
      generalize restOf rs = r_ at HN HRB HRR hrl
      go_wp2_with (first | (go_at_call 38; (refine (HN.out _ HS.out).mono ?_; rintro e w5 ⟨A5, c5, rfl, hc5, hv5, hs5, hx5⟩; have HC5 := Aside0.mk hc5; have HV5 := Aside0.mk hv5; have HS5 := Aside0.mk hs5; have HX5 := Aside0.mk hx5; have HO5 := Aside0.mk (HXX.out hx5); have hz5 := hx5.size; clear hc5 hv5 hs5 hx5 HO HS)) | ((with_reducible refine gate_builtin (b := .append) (xs := #[.tmp 34, .tmp 36]) rfl ?_); at_builtin; (refine ev_append PZ.k37 (M := M) w.heap.size rfl (.tmp 34) (.tmp 36) 45 37 (.agg #[(.int .i64 0), (.int .i64 0), (.slice none 0 0)]) 40 rfl Try.underlying45 info37 rfl (by decide) (by decide) u6 out ⟨t_, u_, p_⟩ [.int .i64 t_, .int .i64 u_, .slice A5 p_.length c5] rfl ?ax (HO5.out.below (below_alloc (Below.refl _ _) _)) ?ap (Below.refl _ _) ?aS (by omega) ?_; (case ax => first | rfl | (go_simp; done) | (go_simp; rfl)); (case ap => exact ⟨fun w2 h2 => PZ.k37_mk w2 ⟨t_, u_, p_⟩ HC5.out (HV5.out.at_ _ (((Ext.refl _ _).alloc _).trans h2))⟩); (case aS => have := HE.out.size; simp; omega); intro v6 w6 HO6 HB6 hg6 hat6; have HO6 := Aside0.mk HO6; have hne : some g ≠ u6.ownBlock := (fun e => hown.out g e.symm rfl); have hgl := isStream_lt HS5.out; have HS6 : Aside0 (IsStream (Mv M v6) w6 g r_ false) := ⟨isStream_grow (isStream_below HS5.out (below_alloc (Below.refl _ _) _)) (Ext.of_grown hg6) (Mv_grow (w1 := w6) hat6) (hg6.block g (by simp; omega) hne)⟩; have HE6 : Aside0 (Ext (fun k => k = g) w w6) := ⟨((HE.out.trans HX5.out).alloc _).grown hg6 (fun k hk => .inr (HO5.out.base_le k hk))⟩; clear HB6 hg6 hat6 hne hgl HO5 HS5)))
      go_roundg k1
      case measure => have := HKK.out; omega
      case rel => exact ⟨out ++ [⟨t_, u_, p_⟩], f1, r_, HRR, ⟨by rw [List.append_assoc]; exact HFT.out⟩, HRB, by omega, by omega, by rw [List.length_append, List.length_singleton]; omega, ⟨by have := HKK.out; omega⟩, HO6, HS6, HE6⟩
structure St (M : Nat → Prop) (W : World) (g : Nat) (rest : List Int) (br : Bool) : Prop where
  out : IsStream M W g rest br
theorem St.lt {M : Nat → Prop} {W : World} {g : Nat} {rest : List Int} {br : Bool} (h : St M W g rest br) : g < W.heap.size := isStream_lt h.out
theorem St.below {M : Nat → Prop} {W W1 : World} {g : Nat} {rest : List Int} {br : Bool} (h : St M W g rest br) (k : Below W.heap.size W W1) : St M W1 g rest br := ⟨isStream_below h.out k⟩
theorem St.ext {M F : Nat → Prop} {W W1 : World} {g : Nat} {rest : List Int} {br : Bool} (h : St M W g rest br) (k : Ext F W W1) (hF : ∀ j, F j → M j) (hg : ¬ F g) : St M W1 g rest br := by
  obtain ⟨A, c, h1, h2, h3⟩ := h.out
  exact ⟨A, c, (k.block g (blk_lt h1) hg).trans h1, h2, h3.step (k.mono (fun j _ e => hF j e))⟩
theorem St.grow {M M' : Nat → Prop} {W : World} {g : Nat} {rest : List Int} {br : Bool} (h : St M W g rest br) (hM : ∀ k, M' k → M k ∨ W.heap.size ≤ k) : St M' W g rest br := ⟨isStream_grow h.out (Ext.refl _ _) hM rfl⟩
theorem St.sub {M M' : Nat → Prop} {W : World} {g : Nat} {rest : List Int} {br : Bool} (h : St M W g rest br) (hM : ∀ k, M' k → M k) : St M' W g rest br := h.grow (fun k e => .inl (hM k e))
theorem own_blk {W : World} {base : Nat} {v : Value} {p : List Int} {M : Nat → Prop} (h : OwnE (Kd.int .u8) M 5 base W v p) (hb : base < W.heap.size) : ∃ bo A c, v = .slice A p.length c ∧ p.length ≤ c ∧ base ≤ bo ∧ bo < W.heap.size ∧ (0 < p.length → ∃ cur, A = some ⟨bo, 0, none⟩ ∧ W.heap[bo]? = some (.cells cur 5 (0, 0)) ∧ p.length ≤ cur.size) := by
  obtain ⟨i, h1, h2⟩ := h
  obtain ⟨A, c, rfl⟩ := own_slice h1
  have hc := own_cap h1
  rcases Nat.eq_zero_or_pos p.length with h0 | h0
  · exact ⟨base, A, c, rfl, hc, Nat.le_refl _, hb, fun h => by omega⟩
  · rcases h1.2 with ⟨h3, h4⟩ | ⟨g, cap, cur, e2, hg, hh, hn, _, hsz, _⟩
    · omega
    · cases e2
      rw [show (Kd.int .u8).sz = 1 from rfl, Nat.mul_one] at hsz
      exact ⟨g, _, _, rfl, hc, hg, blk_lt hh, fun _ => ⟨cur, rfl, hh, by omega⟩⟩
theorem bs_event {P : Program} {ops : Array Oper} {rest : List Oper} {o : Oper} {a : Act} {Q : Exit → Act → World → Prop} {W : World} (hgd : o.guard = none) {N : Tmp} (_hd : o.dst = some N) {cs : Array Value} {t n : Nat}
    (hrun : (execOp a.eval o).run P W = .ok (.value (.slice (some ⟨W.heap.size, 0, none⟩) n n)) (W.alloc (.cells cs t (0, 0))))
    (h : ∀ g, g = W.heap.size → ∀ w1, w1.heap[g]? = some (.cells cs t (0, 0)) → Below W.heap.size W w1 → wpList P ops Q rest (a.put o.dst (.slice (some ⟨g, 0, none⟩) n n)) w1) : wpList P ops Q (o :: rest) a W :=
  Kd.event_run hgd hrun (h _ rfl _ (blk_new W _) (below_alloc (Below.refl _ _) _))
theorem below_tr {B : Nat} {w w1 w2 : World} (h : Below B w w1) (k : Below B w1 w2) : Below B w w2 := ⟨k.os.trans h.os, k.tape.trans h.tape, k.output.trans h.output, Nat.le_trans h.size k.size, fun i hi => (k.block i hi).trans (h.block i hi)⟩
theorem rowE_int {M : Nat → Prop} {W : World} {A : Option Addr} {xs : List Int} {k : IntKind} (h : Ever M W (fun W => Kd.C (Kd.int k) W A xs.length xs)) : RowE (Kd.int k) M W A xs.length xs := by
  refine ⟨rfl, h.now.2.1, fun hn => ?_⟩
  obtain ⟨ad, rfl, _⟩ := C_cell h.now hn
  refine ⟨ad, xs.map (Value.int k), rfl, ⟨by show (xs.map _).length = _ * 1; simp, fun j p hj => ?_⟩, ⟨fun W' hW i u hu => ?_⟩⟩
  · have e : ((xs.map (Value.int k)).drop (j * (Kd.int k).sz)).take (Kd.int k).sz = [.int k p] := by
      show ((xs.map (Value.int k)).drop (j * 1)).take 1 = _
      have hj2 : j < xs.length := (List.getElem?_eq_some_iff.1 hj).1
      rw [Nat.mul_one, List.drop_eq_getElem_cons (by simpa using hj2)]
      simp
      exact (List.getElem?_eq_some_iff.1 hj).2
    rw [e]
    exact ⟨⟨rfl, fun u hu => by rw [List.mem_singleton.1 hu]; rfl⟩, ⟨fun _ _ => rfl⟩⟩
  · obtain ⟨ad', e', hc⟩ := C_cell (h.at_ W' hW) hn
    cases e'
    rw [List.getElem?_map] at hu
    obtain ⟨y, hy, rfl⟩ := Option.map_eq_some_iff.1 hu
    have := hc i (List.getElem?_eq_some_iff.1 hy).1
    rw [this, List.getD_eq_getElem?_getD, hy]
    rfl
theorem own_view {e base : Nat} {W : World} {v : Value} {xs : List Int} {k : IntKind} {M0 : Nat → Prop} (h : OwnE (Kd.int k) M0 e base W v xs) (M : Nat → Prop) (hM : ∀ k, M k → k < base) : ∃ A c, v = .slice A xs.length c ∧ xs.length ≤ c ∧ Ever M W (fun W => Kd.C (Kd.int k) W A xs.length xs) := by
  obtain ⟨i, h1, h2⟩ := h
  have h' : OwnE (Kd.int k) M e base W v xs := ⟨i, h1, h2.imp_ (fun x cs hx => ⟨fun w' _ => hx.now⟩)⟩
  exact h'.view (fun j hj hm => by have := own_base h1 j hj; have := hM j hm; omega)
theorem both_f {a p : List Int} (h : a.length + p.length ≤ 100000) : basculeref01_Both.f a p = some (a ++ p) := by
  simp only [basculeref01_Both.f]
  simp
  omega
def Inv (ls : List (List Int)) (K j : Nat) (a : List Int) (ws : List PZ.S37) (rest : List Int) (br : Bool) : Prop := Bytes a ∧ a.length ≤ 5000 ∧ (br = true → rest = []) ∧ (br = false → a.length = lens ls j ∧ allF K a = (ws, rest, false))
theorem Inv.start (ls : List (List Int)) {K : Nat} (hK : 10000 ≤ K) : Inv ls K 0 [] [] [] false := by
  refine ⟨fun x hx => by simp at hx, by simp, fun _ => rfl, fun _ => ⟨by simp [lens], ?_⟩⟩
  obtain ⟨k, rfl⟩ : ∃ k, K = k + 1 := ⟨K - 1, by omega⟩
  simp [allF]
theorem Inv.step {ls : List (List Int)} {K j : Nat} {a p : List Int} {ws fs : List PZ.S37} {rest r : List Int} {br : Bool} (h : Inv ls K j a ws rest false) (hK : 10000 ≤ K) (hj : j < ls.length) (hp : ls.getD j [] = p) (hb : Bytes p) (h5 : lens ls ls.length ≤ 5000) (hr : allF K (rest ++ p) = (fs, r, br)) :
    Inv ls K (j + 1) (a ++ p) (ws ++ fs) r br ∧ allF K (a ++ p) = (ws ++ fs, r, br) ∧ Bytes rest ∧ rest.length ≤ 5000 ∧ p.length ≤ 5000 ∧ Bytes (a ++ p) ∧ (a ++ p).length ≤ 5000 := by
  obtain ⟨h1, h2, _, h3⟩ := h
  obtain ⟨h4, h6⟩ := h3 rfl
  have hl := lens_part hj
  have hs := lens_succ hj
  rw [hp] at hl hs
  have hap : (a ++ p).length ≤ 5000 := by rw [List.length_append]; omega
  have hby : Bytes (a ++ p) := fun x hx => by rcases List.mem_append.1 hx with e | e; exact h1 x e; exact hb x e
  have hpt := (allF_parts K a p ws rest false (by omega) h6).2 rfl
  have he := hpt.2 K (by omega)
  rw [hr] at he
  have hrb := allF_bytes K a h1
  rw [h6] at hrb
  have hrl := hpt.1
  refine ⟨⟨hby, hap, fun hbr => ?_, fun _ => ⟨by rw [List.length_append]; omega, ?_⟩⟩, he, hrb, by omega, by omega, hby, hap⟩
  · subst hbr
    exact ((allF_parts K (a ++ p) [] (ws ++ fs) r true (by omega) he).1 rfl).1
  · subst_vars
    simp_all
end Go.Proofs.Ytabjlanomebonaa.FdB
end

section
namespace Go.Proofs.Ytabjlanomebonaa.AwakeA
open Go.RowKit Go.Proofs.YtabjlanomebonaaW.PrintWords Go.Proofs.YtabjlanomebonaaW.PrintLast Go.Proofs.YtabjlanomebonaaW.PrintMore Go.Proofs.Ytabjlanomebonaa.Core Go.Proofs.Ytabjlanomebonaa.Ext Go.Proofs.Ytabjlanomebonaa.ExtG
set_option linter.unusedVariables false
set_option linter.unusedSimpArgs false
theorem lit_C (W : World) (xs : List Int) (h : xs.length ≤ 9223372036854775807) : Kd.C (Kd.int .u8) (W.alloc (.cells (nums .u8 xs).toArray 5)) (some ⟨W.heap.size, 0, none⟩) xs.length xs := by
  have h := own_lit W 0 5 .u8 xs (by omega) h
  obtain ⟨A, c, e, hr⟩ := own_reads h
  injection e with e1 e2 e3
  subst e1
  exact Kd.C_of_reads (d := (0 : Int)) (h1 := fun _ => rfl) hr
theorem lit_E {M : Nat → Prop} {W : World} {g : Nat} (hg : g = W.heap.size) (xs : List Int) (h : xs.length ≤ 9223372036854775807) (hM : ∀ k, M k → k < W.heap.size) : Ever M (W.alloc (.cells (nums .u8 xs).toArray 5)) (fun W' => Kd.C (Kd.int .u8) W' (some ⟨g, 0, none⟩) xs.length xs) := by
  subst hg
  exact Ever.R (base := W.heap.size) (Kd.R_of_own (ok := fun _ => True) (own_lit W W.heap.size 5 .u8 xs (Nat.le_refl _) h) (fun _ _ => trivial)) hM
end Go.Proofs.Ytabjlanomebonaa.AwakeA
end

section
namespace Go.Proofs.Ytabjlanomebonaa.AwakeB
open Go.RowKit Go.Proofs.YtabjlanomebonaaW.PrintWords Go.Proofs.YtabjlanomebonaaW.PrintLast Go.Proofs.YtabjlanomebonaaW.PrintMore Go.Proofs.Ytabjlanomebonaa.Core Go.Proofs.Ytabjlanomebonaa.Ext Go.Proofs.Ytabjlanomebonaa.ExtG Go.Proofs.Ytabjlanomebonaa.ExtC Go.Proofs.Ytabjlanomebonaa.StrA Go.Proofs.Ytabjlanomebonaa.StrB Go.Proofs.Ytabjlanomebonaa.AwakeA
set_option linter.unusedVariables false
set_option linter.unusedSimpArgs false
theorem two_below {o o' : Obj} {w wr : World} (h : Ext (fun k => k = w.heap.size ∨ k = w.heap.size + 1) ((w.alloc o).alloc o') wr) : Below w.heap.size w wr := Ext.below (M := fun k => k = w.heap.size ∨ k = w.heap.size + 1) ((((Ext.refl _ w).alloc _).alloc _).trans h) (fun k hk => by omega)
set_option maxHeartbeats 8000000 in
set_option maxRecDepth 1000000 in
theorem awake6 (w : World) : Calls Try.prog 20 #[] w fun e w' => e = .returned (.bool true) ∧ Below w.heap.size w w' := by
  have h1 : Aside0 (PB.mbap_Frame.f 100 1 17 [3, 0] = some ([0, 1, 0, 0, 0, 3, 17, 3, 0], 0)) := ⟨by decide +kernel⟩
  have K1 : Aside0 (allF 30 ([] ++ [0, 1, 0, 0, 0, 3, 17, 3]) = ([], [0, 1, 0, 0, 0, 3, 17, 3], false)) := ⟨by kernel_rfl⟩
  have K2 : Aside0 (allF 30 ([0, 1, 0, 0, 0, 3, 17, 3] ++ [0]) = ([⟨1, 17, [3, 0]⟩], [], false)) := ⟨by kernel_rfl⟩
  have K3 : Aside0 (allF 30 ([] ++ [0, 1, 0, 1, 0, 3]) = ([], [], true)) := ⟨by kernel_rfl⟩
  have tok1 := Aside0.mk trivial
  go_enter Try.func20, Try.ntmps20
  go_wp2_with (first | (go_at_call 18; (refine (PB.mbap_Frame.calls 100 1 17 _ _ [3, 0] _ _ _ (lit_C w [3, 0] (by simp)) (by simp) h1.out).mono ?_; rintro e w1 ⟨v1, rfl, HR, HB⟩; obtain ⟨A1, c1, rfl, hc, HC⟩ := Kd.R_reads HR; have HC1 := Aside0.mk HC; have HBW := Aside0.mk (below_step (below_alloc (Below.refl _ _) _) HB); have hc9 : 9 ≤ c1 := hc; obtain ⟨i0, hi0, hz0_, hz1_, hz2_⟩ := info_parts info5; obtain ⟨A2, hcut, hcutr, hcutl⟩ := print_drop_of (P := Try.prog) (Value.int .u8) 0 22 5 .i64 Try.underlying22 hi0 hz1_ A1 c1 [0, 1, 0, 0, 0, 3, 17, 3, 0] 8 (by omega) (by simp) hc; have HV0 := Aside0.mk (Ever.C (M := (fun k => k = w1.heap.size ∨ k = w1.heap.size + 1)) HC (fun k hk => by rcases hk with e | e <;> omega)); have HV1 : Aside0 (Ever (fun k => k = w1.heap.size ∨ k = w1.heap.size + 1) ((w1.alloc (.cells #[.slice none 0 0, .bool false] 72)).alloc (.cells #[.slice none 0 0, .bool false] 72)) (fun W => Kd.C (Kd.int .u8) W A1 ([0, 1, 0, 0, 0, 3, 17, 3] : List Int).length [0, 1, 0, 0, 0, 3, 17, 3])) := ⟨(HV0.out.take (m := 8) (by simp)).step (((Ext.refl _ _).alloc _).alloc _)⟩; have HV2 : Aside0 (Ever (fun k => k = w1.heap.size ∨ k = w1.heap.size + 1) ((w1.alloc (.cells #[.slice none 0 0, .bool false] 72)).alloc (.cells #[.slice none 0 0, .bool false] 72)) (fun W => Kd.C (Kd.int .u8) W A2 ([0] : List Int).length [0])) := ⟨(HV0.out.imp (fun W hW => Kd.C_of_reads (d := (0 : Int)) (h1 := fun _ => rfl) (hcutr W (Kd.reads_of_C hW)))).step (((Ext.refl _ _).alloc _).alloc _)⟩; have hcut9 : ∀ W : World, Sem.run Try.prog (Instr.slice 22 (.slice A1 9 c1) (some (.int .i64 8)) none none) W = Result.ok (Value.slice A2 1 (c1 - 8)) W := hcut; clear hcut; have HA1 : Aside0 (IsStream (fun k => k = w1.heap.size ∨ k = w1.heap.size + 1) ((w1.alloc (.cells #[.slice none 0 0, .bool false] 72)).alloc (.cells #[.slice none 0 0, .bool false] 72)) w1.heap.size [] false) := ⟨⟨none, 0, blk_alloc (new_blk rfl) _, Nat.le_refl _, Ever.nil _⟩⟩; have HB1 : Aside0 (IsStream (fun k => k = w1.heap.size ∨ k = w1.heap.size + 1) ((w1.alloc (.cells #[.slice none 0 0, .bool false] 72)).alloc (.cells #[.slice none 0 0, .bool false] 72)) (w1.heap.size + 1) [] false) := ⟨⟨none, 0, new_blk (by simp), Nat.le_refl _, Ever.nil _⟩⟩; have HX1 : Aside0 (Ext (fun k => k = w1.heap.size ∨ k = w1.heap.size + 1) ((w1.alloc (.cells #[.slice none 0 0, .bool false] 72)).alloc (.cells #[.slice none 0 0, .bool false] 72)) ((w1.alloc (.cells #[.slice none 0 0, .bool false] 72)).alloc (.cells #[.slice none 0 0, .bool false] 72))) := ⟨Ext.refl _ _⟩; have HMB1 : Aside0 (∀ k, (fun k => k = w1.heap.size ∨ k = w1.heap.size + 1) k → k < (((w1.alloc (.cells #[.slice none 0 0, .bool false] 72)).alloc (.cells #[.slice none 0 0, .bool false] 72))).heap.size) := ⟨fun k hk => by rcases hk with e | e <;> (rw [e]; simp; try omega)⟩; clear HR HB HC hc hcutr hcutl hi0 hz0_ hz1_ hz2_ HV0)) | (go_at_call 23; (refine (stream_new _).mono ?_; rintro e w' ⟨rfl, rfl⟩)) | (go_at_call 24; have _t := tok1; (refine (sfeed (fun k => k = w1.heap.size ∨ k = w1.heap.size + 1) w1.heap.size [] [0, 1, 0, 0, 0, 3, 17, 3] _ _ _ (.inl rfl) HMB1.out HA1.out HV1.out (by decide) (by decide) (by simp) (by simp) 30 (by simp) [] [0, 1, 0, 0, 0, 3, 17, 3] false K1.out).mono ?_; rintro e w2 ⟨v, rfl, HR, HSn, HXn⟩; obtain ⟨A_1, c_1, rfl, hc_, HR⟩ := HR; have HRW1 := Aside0.mk HR; have HA2 := Aside0.mk HSn; have HB2 : Aside0 (IsStream (fun k => k = w1.heap.size ∨ k = w1.heap.size + 1) w2 (w1.heap.size + 1) [] false) := ⟨isStream_grow HB1.out (Ext.mono HXn (fun k _ e => by have e' : _ = _ := e; exact .inl e')) (fun k a => .inl a) (HXn.block _ (isStream_lt HB1.out) (fun e => by have e' : _ = _ := e; omega))⟩; have HE34 : Aside0 (Ext (fun k => k = w1.heap.size ∨ k = w1.heap.size + 1) _ w2) := ⟨Ext.mono HXn (fun k _ e => by have e' : _ = _ := e; exact .inl e')⟩; have HX2 : Aside0 (Ext (fun k => k = w1.heap.size ∨ k = w1.heap.size + 1) ((w1.alloc (.cells #[.slice none 0 0, .bool false] 72)).alloc (.cells #[.slice none 0 0, .bool false] 72)) w2) := ⟨(HX1.out).trans (Ext.mono HXn (fun k _ e => by have e' : _ = _ := e; exact .inl e'))⟩; have HMB2 : Aside0 (∀ k, (fun k => k = w1.heap.size ∨ k = w1.heap.size + 1) k → k < w2.heap.size) := ⟨fun k hk => HX2.out.lt_ (by rcases hk with e | e <;> (rw [e]; simp; try omega))⟩; clear HA1 HB1 HMB1; clear tok1 _t; have tok2 := Aside0.mk trivial)) | (go_at_call 25; (refine (left_any _ _ _ _ _ HA2.out).mono ?_; rintro e w' ⟨rfl, rfl⟩)) | (go_at_call 24; have _t := tok2; (refine (sfeed (fun k => k = w1.heap.size ∨ k = w1.heap.size + 1) w1.heap.size [0, 1, 0, 0, 0, 3, 17, 3] [0] _ _ _ (.inl rfl) HMB2.out HA2.out (HV2.out.step HX2.out) (by decide) (by decide) (by simp) (by simp) 30 (by simp) [⟨1, 17, [3, 0]⟩] [] false K2.out).mono ?_; rintro e w3 ⟨v, rfl, HR, HSn, HXn⟩; obtain ⟨A_2, c_2, rfl, hc_, HR⟩ := HR; have HRW2 := Aside0.mk HR; have HA3 := Aside0.mk HSn; have HB3 : Aside0 (IsStream (fun k => k = w1.heap.size ∨ k = w1.heap.size + 1) w3 (w1.heap.size + 1) [] false) := ⟨isStream_grow HB2.out (Ext.mono HXn (fun k _ e => by have e' : _ = _ := e; exact .inl e')) (fun k a => .inl a) (HXn.block _ (isStream_lt HB2.out) (fun e => by have e' : _ = _ := e; omega))⟩; have HE34 : Aside0 (Ext (fun k => k = w1.heap.size ∨ k = w1.heap.size + 1) _ w3) := ⟨Ext.mono HXn (fun k _ e => by have e' : _ = _ := e; exact .inl e')⟩; have HX3 : Aside0 (Ext (fun k => k = w1.heap.size ∨ k = w1.heap.size + 1) ((w1.alloc (.cells #[.slice none 0 0, .bool false] 72)).alloc (.cells #[.slice none 0 0, .bool false] 72)) w3) := ⟨(HX2.out).trans (Ext.mono HXn (fun k _ e => by have e' : _ = _ := e; exact .inl e'))⟩; have HMB3 : Aside0 (∀ k, (fun k => k = w1.heap.size ∨ k = w1.heap.size + 1) k → k < w3.heap.size) := ⟨fun k hk => HX3.out.lt_ (by rcases hk with e | e <;> (rw [e]; simp; try omega))⟩; clear HA2 HB2 HMB2; clear tok2 _t; have tok3 := Aside0.mk trivial)) | (go_at_call 24; have _t := tok3; (refine (sfeed (fun k => k = w1.heap.size ∨ k = w1.heap.size + 1) (w1.heap.size + 1) [] [0, 1, 0, 1, 0, 3] _ _ _ (.inr rfl) (fun k hk => Ext.lt_ (Ext.alloc (M := (fun k => k = w1.heap.size ∨ k = w1.heap.size + 1)) (Ext.refl _ _) _) (HMB3.out k hk)) (isStream_below HB3.out (below_alloc (Below.refl _ _) _)) (lit_E (by simp) [0, 1, 0, 1, 0, 3] (by simp) HMB3.out) (by decide) (by decide) (by simp) (by simp) 30 (by simp) [] [] true K3.out).mono ?_; rintro e w4 ⟨v, rfl, HR, HSn, HXn⟩; obtain ⟨A_3, c_3, rfl, hc_, HR⟩ := HR; have HRW3 := Aside0.mk HR; have HB4 := Aside0.mk HSn; have HA4 : Aside0 (IsStream (fun k => k = w1.heap.size ∨ k = w1.heap.size + 1) w4 w1.heap.size [] false) := ⟨isStream_grow (isStream_below HA3.out (below_alloc (Below.refl _ _) _)) (Ext.mono HXn (fun k _ e => by have e' : _ = _ := e; exact .inr e')) (fun k a => .inl a) (HXn.block _ (isStream_lt (isStream_below HA3.out (below_alloc (Below.refl _ _) _))) (fun e => by have e' : _ = _ := e; omega))⟩; have HE34 : Aside0 (Ext (fun k => k = w1.heap.size ∨ k = w1.heap.size + 1) _ w4) := ⟨((Ext.refl _ _).alloc _).trans (Ext.mono HXn (fun k _ e => by have e' : _ = _ := e; exact .inr e'))⟩; have HX4 : Aside0 (Ext (fun k => k = w1.heap.size ∨ k = w1.heap.size + 1) ((w1.alloc (.cells #[.slice none 0 0, .bool false] 72)).alloc (.cells #[.slice none 0 0, .bool false] 72)) w4) := ⟨(HX3.out.alloc _).trans (Ext.mono HXn (fun k _ e => by have e' : _ = _ := e; exact .inr e'))⟩; have HMB4 : Aside0 (∀ k, (fun k => k = w1.heap.size ∨ k = w1.heap.size + 1) k → k < w4.heap.size) := ⟨fun k hk => HX4.out.lt_ (by rcases hk with e | e <;> (rw [e]; simp; try omega))⟩; clear HB3 HA3 HMB3; clear tok3 _t; have tok4 := Aside0.mk trivial); have hcv : Sem.run Try.prog (convert 22 9 (Value.slice A1 9 c1)) w4 = Result.ok (.string ⟨#[0, 1, 0, 0, 0, 3, 17, 3, 0]⟩) w4 := string_of_reads (P := Try.prog) (c := c1) Try.underlying22 Try.underlying5 Try.underlying9 (Kd.reads_of_C (Kd.C_below HC1.out (two_below HX4.out))); obtain ⟨ad_, A2_, c2_, e_, q0_, q1_, _, _, _⟩ := PZ.at_T37 (HRW2.out.ever.at_ w4 HE34.out) 0 (by omega) (by simp); cases e_; rw [show ((0 : Int).toNat * 3) = 0 from rfl, Addr.add_zero'] at q1_; have hcu : w4.cell? ⟨ad_.block, ad_.off + 1, none⟩ = some (.int .i64 17) := q1_))
  go_ret
  exact ⟨rfl, below_step HBW.out (two_below HX4.out)⟩
end Go.Proofs.Ytabjlanomebonaa.AwakeB
end

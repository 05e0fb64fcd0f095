/- What stays as it was but for the blocks of M; what holds however the blocks of M turn. -/
import Derived.Test.YtabjlanomebonaaExtB
namespace Go.Proofs.Ytabjlanomebonaa.Core
open Go.RowKit Go.Proofs.YtabjlanomebonaaW.PrintWords Go.Proofs.YtabjlanomebonaaW.PrintLast Go.Proofs.YtabjlanomebonaaW.PrintMore
set_option linter.unusedVariables false
set_option linter.unusedSimpArgs false

/-- w' is w, but for new blocks and the blocks of M. -/
structure Ext (M : Nat → Prop) (w w' : World) : Prop where
  os : w'.os = w.os
  tape : w'.tape = w.tape
  output : w'.output = w.output
  size : w.heap.size ≤ w'.heap.size
  block : ∀ k, k < w.heap.size → ¬ M k → w'.heap[k]? = w.heap[k]?
/-- It holds now, and whatever becomes of the blocks of M. -/
structure Ever (M : Nat → Prop) (w : World) (P : World → Prop) : Prop where
  at_ : ∀ w', Ext M w w' → P w'

section
variable {M M' : Nat → Prop} {w w1 w2 W : World} {P Q : World → Prop}
theorem Ext.refl (M : Nat → Prop) (w : World) : Ext M w w := ⟨rfl, rfl, rfl, Nat.le_refl _, fun _ _ _ => rfl⟩
theorem Ext.trans (h : Ext M w w1) (k : Ext M w1 w2) : Ext M w w2 :=
  ⟨k.os.trans h.os, k.tape.trans h.tape, k.output.trans h.output, Nat.le_trans h.size k.size, fun i hi hm => (k.block i (Nat.lt_of_lt_of_le hi h.size) hm).trans (h.block i hi hm)⟩
theorem Ext.mono (h : Ext M w w1) (hm : ∀ k, k < w.heap.size → M k → M' k) : Ext M' w w1 := ⟨h.os, h.tape, h.output, h.size, fun i hi hn => h.block i hi (fun a => hn (hm i hi a))⟩
theorem Ext.of_below (h : Below w.heap.size w w1) : Ext M w w1 := ⟨h.os, h.tape, h.output, h.size, fun i hi _ => h.block i hi⟩
theorem Ext.then_below (h : Ext M w w1) (k : Below w1.heap.size w1 w2) : Ext M w w2 := h.trans (.of_below k)
theorem Ext.alloc (h : Ext M w W) (o : Obj) : Ext M w (W.alloc o) := h.then_below (below_alloc (Below.refl _ _) o)
theorem Ext.drewN (h : Ext M w W) (n : Nat) : Ext M w (W.drewN n) := h.then_below (pw_below_drewN (Below.refl _ _) n)
theorem Ext.drew (h : Ext M w W) : Ext M w W.drew := h.then_below (below_drew1 (Below.refl _ _))
theorem Ext.set (h : Ext M w W) {g j : Nat} (hg : M g) (v : Value) : Ext M w (W.setCell ⟨g, j, none⟩ v) :=
  h.trans ⟨rfl, rfl, rfl, by simp [World.setCell], fun k _ hk => Below.heap_setCell _ _ _ _ (fun e => hk (by simpa using e ▸ hg))⟩
theorem Ext.new (h : Ext M w W) {g j : Nat} (hg : w.heap.size ≤ g) (v : Value) : Ext M w (W.setCell ⟨g, j, none⟩ v) :=
  ⟨h.os, h.tape, h.output, by have := h.size; simpa [World.setCell] using this, fun k hk hm => (Below.heap_setCell _ _ _ _ (by show k ≠ g; omega)).trans (h.block k hk hm)⟩
theorem Ext.grown (h : Ext M w W) {row : Option Nat} (hg : W.grownBy w1 row) (hr : ∀ k, row = some k → M k ∨ w.heap.size ≤ k) : Ext M w w1 :=
  ⟨hg.os.trans h.os, hg.tape.trans h.tape, hg.output.trans h.output, Nat.le_trans h.size hg.size, fun k hk hm => (hg.block k (Nat.lt_of_lt_of_le hk h.size) (fun e => by rcases hr k e.symm with a | a; exact hm a; omega)).trans (h.block k hk hm)⟩
theorem Ext.below (h : Ext M w W) (hM : ∀ k, M k → w.heap.size ≤ k) : Below w.heap.size w W := ⟨h.os, h.tape, h.output, h.size, fun k hk => h.block k hk (fun a => by have := hM k a; omega)⟩
theorem Ext.grow (h : Ext M w W) (k : Ext M' W w2) (hM : ∀ k, M' k → M k ∨ w.heap.size ≤ k) : Ext M w w2 :=
  ⟨k.os.trans h.os, k.tape.trans h.tape, k.output.trans h.output, Nat.le_trans h.size k.size, fun i hi hm => (k.block i (Nat.lt_of_lt_of_le hi h.size) (fun a => by rcases hM i a with b | b; exact hm b; omega)).trans (h.block i hi hm)⟩
theorem Ext.lt_ {k : Nat} (h : Ext M w W) (hk : k < w.heap.size) : k < W.heap.size := Nat.lt_of_lt_of_le hk h.size
theorem Ext.setg {g j : Nat} (h : Ext (fun k => k = g) w W) (v : Value) : Ext (fun k => k = g) w (W.setCell ⟨g, j, none⟩ v) := Ext.set h (M := fun k => k = g) rfl v
theorem Ext.toM {g : Nat} (hM : M g) (h : Ext (fun k => k = g) w W) : Ext M w W := h.mono (fun k _ e => by have e' : k = g := e; subst e'; exact hM)
theorem Ever.now (h : Ever M w P) : P w := h.at_ w (Ext.refl _ _)
theorem Ever.step (h : Ever M w P) (k : Ext M w w1) : Ever M w1 P := ⟨fun w2 h2 => h.at_ w2 (k.trans h2)⟩
/-- M grows by new blocks, or shrinks. -/
theorem Ever.grow (h : Ever M w P) (k : Ext M w w1) (hM : ∀ k, M' k → M k ∨ w.heap.size ≤ k) : Ever M' w1 P := ⟨fun w2 h2 => h.at_ w2 (k.grow h2 hM)⟩
theorem Ever.imp (h : Ever M w P) (k : ∀ w, P w → Q w) : Ever M w Q := ⟨fun w1 h1 => k _ (h.at_ w1 h1)⟩
theorem Ever.and (h : Ever M w P) (k : Ever M w Q) : Ever M w (fun w => P w ∧ Q w) := ⟨fun w1 h1 => ⟨h.at_ w1 h1, k.at_ w1 h1⟩⟩
/-- What came in: M's blocks are all new. -/
theorem Ever.old (h : P w) (hb : ∀ w1, Below w.heap.size w w1 → P w1) (hM : ∀ k, M k → w.heap.size ≤ k) : Ever M w P := ⟨fun w1 h1 => hb w1 (h1.below hM)⟩
theorem Ever.C {α : Type} {d : Kd α} {A : Option Addr} {n : Nat} {xs : List α} (h : d.C w A n xs) (hM : ∀ k, M k → w.heap.size ≤ k) : Ever M w (fun W => d.C W A n xs) := .old h (fun _ hb => Kd.C_below h hb) hM
/-- What was made, from base on: M's blocks are all elder. -/
theorem Ever.R {α : Type} {d : Kd α} {e base : Nat} {ok : Nat → Prop} {A : Option Addr} {n c : Nat} {xs : List α} (h : d.R e w base ok (.slice A n c) xs) (hM : ∀ k, M k → k < base) : Ever M w (fun W => d.C W A xs.length xs) := by
  refine ⟨fun w1 h1 => ?_⟩
  have h2 : d.R e w1 base (fun k => ok k ∧ base ≤ k ∧ k < w.heap.size ∧ ∃ q, q ∈ e :: d.E ∧ ∃ cells, w.heap[k]? = some (.cells cells q (0, 0))) (.slice A n c) xs :=
    Kd.R_move (Kd.R_bound h) (fun k hk => h1.block k hk.2.2.1 (fun a => by have := hM k a; have := hk.2.1; omega))
  exact (Kd.R_reads' h2).2.2
theorem Ever.made {α : Type} {d : Kd α} {e base : Nat} {ok : Nat → Prop} {v : Value} {xs : List α} (h : d.R e w base ok v xs) (hM : ∀ k, M k → k < base) : ∃ A c, v = .slice A xs.length c ∧ xs.length ≤ c ∧ Ever M w (fun W => d.C W A xs.length xs) := by
  obtain ⟨A, c, rfl, hc, _⟩ := Kd.R_reads h
  exact ⟨A, c, rfl, hc, .R h hM⟩
theorem Ever.blk {g : Nat} {o : Obj} (h : w.heap[g]? = some o) (hM : ¬ M g) : Ever M w (fun W => W.heap[g]? = some o) := ⟨fun w1 h1 => (h1.block g (blk_lt h) hM).trans h⟩
theorem Ever.nil {α : Type} (d : Kd α) : Ever M w (fun W => d.C W none ([] : List α).length []) := ⟨fun w1 _ => Kd.C_nil d w1⟩
theorem Ever.triv {p : Prop} (h : p) : Ever M w (fun _ => p) := ⟨fun _ _ => h⟩
end
section
variable {α : Type} {enc : α → Value} {h1 : ∀ x, (enc x).oneCell' = true} {M : Nat → Prop} {w : World} {A : Option Addr}
theorem Ever.take {d : Kd α} {xs : List α} (h : Ever M w (fun W => d.C W A xs.length xs)) {m : Nat} (hm : m ≤ xs.length) : Ever M w (fun W => d.C W A (xs.take m).length (xs.take m)) := h.imp (fun _ k => Kd.C_take k hm)
end
/-! A row of the call's own, whose elements may be anything that stays as it is. -/
def Mv (M : Nat → Prop) (v : Value) (k : Nat) : Prop := M k ∨ some k = v.ownBlock
def OwnE {α : Type} (d : Kd α) (M : Nat → Prop) (e : TypeId) (base : Nat) (W : World) (v : Value) (xs : List α) : Prop :=
  ∃ inner, W.ownsRow base e d.sz v xs.length inner ∧ Reps (fun x cs => Ever (Mv M v) W (fun W => d.K W x cs)) d.sz xs inner
section
variable {α : Type} {d : Kd α} {M M' : Nat → Prop} {e : TypeId} {base : Nat} {W w1 : World} {v v1 : Value} {xs : List α} {P : World → Prop}
theorem OwnE.nil (d : Kd α) (M : Nat → Prop) (e : TypeId) (base : Nat) (W : World) : OwnE d M e base W (.slice none 0 0) [] := ⟨[], own_nil W base e d.sz, Reps.none _ _⟩
theorem OwnE.slice (h : OwnE d M e base W v xs) : ∃ A c, v = .slice A xs.length c := by obtain ⟨i, h, _⟩ := h; exact own_slice h
theorem OwnE.step (h : OwnE d M e base W v xs) (k : Ext (Mv M v) W w1) (hv : ∀ k, v.ownBlock = some k → w1.heap[k]? = W.heap[k]?) : OwnE d M e base w1 v xs := by
  obtain ⟨i, h1, h2⟩ := h
  exact ⟨i, own_move h1 hv, h2.imp_ (fun _ _ h => h.step k)⟩
theorem OwnE.below (h : OwnE d M e base W v xs) (k : Below W.heap.size W w1) : OwnE d M e base w1 v xs := by
  obtain ⟨i, h1, h2⟩ := h
  exact ⟨i, pw_own_below h1 k, h2.imp_ (fun _ _ h => h.step (.of_below k))⟩
/-- Behind a call that turned blocks of M alone. -/
theorem OwnE.ext (h : OwnE d M e base W v xs) (k : Ext M W w1) (hM : ∀ k, v.ownBlock = some k → ¬ M k) : OwnE d M e base w1 v xs := by
  have h0 := h
  obtain ⟨i, h1, h2⟩ := h0
  exact h.step (k.mono (fun _ _ a => .inl a)) (fun b hb => k.block b (own_lt h1 b hb) (hM b hb))
theorem OwnE.base_le (h : OwnE d M e base W v xs) (k : Nat) (hk : v.ownBlock = some k) : base ≤ k := by obtain ⟨i, h1, _⟩ := h; exact own_base h1 k hk
theorem OwnE.lt (h : OwnE d M e base W v xs) (k : Nat) (hk : v.ownBlock = some k) : k < W.heap.size := by obtain ⟨i, h1, _⟩ := h; exact own_lt h1 k hk
theorem OwnE.view (h : OwnE d M e base W v xs) (hM : ∀ k, v.ownBlock = some k → ¬ M k) : ∃ A c, v = .slice A xs.length c ∧ xs.length ≤ c ∧ Ever M W (fun W => d.C W A xs.length xs) := by
  obtain ⟨i, h1, h2⟩ := h
  obtain ⟨A, c, rfl⟩ := own_slice h1
  refine ⟨A, c, rfl, own_cap h1, ⟨fun w1 k => ?_⟩⟩
  have h3 : w1.ownsRow base e d.sz (.slice A xs.length c) xs.length i := own_move h1 (fun b hb => k.block b (own_lt h1 b hb) (hM b hb))
  have h4 : Reps (d.K w1) d.sz xs i := h2.imp_ (fun _ _ h => h.at_ _ (k.mono (fun _ _ a => .inl a)))
  obtain ⟨A', c', e', h5⟩ := own_reads_row h3 h4 rfl
  cases e'
  exact h5
theorem OwnE.moreM (h : OwnE d M e base W v xs) (hM : ∀ k, M' k → M k ∨ W.heap.size ≤ k ∨ some k = v.ownBlock) : OwnE d M' e base W v xs := by
  obtain ⟨i, h1, h2⟩ := h
  refine ⟨i, h1, h2.imp_ (fun _ _ h => h.grow (Ext.refl _ _) (fun k hk => ?_))⟩
  rcases hk with hk | hk
  · rcases hM k hk with a | a | a
    · exact .inl (.inl a)
    · exact .inr a
    · exact .inl (.inr a)
  · exact .inl (.inr hk)
theorem Mv_grow {W w1 : World} (hat : v1.ownBlock = v.ownBlock ∨ ∃ b, v1.ownBlock = some b ∧ W.heap.size ≤ b) (k : Nat) (h : Mv M v1 k) : Mv M v k ∨ W.heap.size ≤ k := by
  rcases h with h | h
  · exact .inl (.inl h)
  · rcases hat with a | ⟨b, a, hb⟩
    · exact .inl (.inr (h.trans a))
    · rw [a] at h; injection h with h; exact .inr (by omega)
theorem Ext.of_grown (h : W.grownBy w1 v.ownBlock) : Ext (Mv M v) W w1 := ⟨h.os, h.tape, h.output, h.size, fun k hk hm => h.block k hk (fun e => hm (.inr e))⟩
end
section
variable {P : Program} {ops : Array Oper} {rest : List Oper} {o : Oper} {a : Act} {Q : Exit → Act → World → Prop} {α : Type}
/-- append(v, x): the walk stands behind the box of x's cells. -/
theorem ev_append (d : Kd α) {M : Nat → Prop} {w0 W : World} (base : Nat) (hgd : o.guard = none) (s x : Operand) (t e : TypeId) (z : Value) (bytes : Nat)
    (ho : o.op = .call { callee := .builtin .append, args := #[s, x], argTypes := #[t, t] })
    (ht : P.underlying t = some (.slice e)) (hinfo : (P.info? e).map (fun i => (i.zero, i.size, i.bytes)) = some (some z, d.sz, bytes)) (hz : z.cells.size = d.sz) (hs0 : 0 < d.sz) (hb0 : 0 < bytes)
    (v : Value) (xs : List α) (p : α) (ys : List Value) (hs : a.eval s = v) (hx : a.eval x = .slice (some ⟨W.heap.size, 0, none⟩) 1 1)
    (HO : OwnE d M e base W v xs) (hp : Ever (Mv M v) W (fun W => d.K W p ys)) (HB : Below base w0 W) (hbase : base ≤ W.heap.size) (hl : (xs.length + 1) * bytes ≤ 140737488355328)
    (h : ∀ v1 w1, OwnE d M e base w1 v1 (xs ++ [p]) → Below base w0 w1 → W.grownBy w1 v.ownBlock → (v1.ownBlock = v.ownBlock ∨ ∃ b, v1.ownBlock = some b ∧ W.heap.size ≤ b) → wpList P ops Q rest (a.put o.dst v1) w1) :
    wpList P ops Q (o :: rest) a (W.alloc (.cells ys.toArray e)) := by
  obtain ⟨inner, hown, hr⟩ := HO
  refine print_append_cells base hgd s x t e z d.sz bytes ho ht hinfo hz hs0 hb0 v xs.length inner ys hs hx (d.K_len hp.now) (d.K_one hp.now) hown HB hbase hl (fun v1 w1 h1 h2 h3 h4 => ?_)
  have hE : Ext (Mv M v) W w1 := Ext.of_grown h3
  refine h v1 w1 ⟨inner ++ ys, by rw [List.length_append, List.length_singleton]; exact h1, ?_⟩ h2 h3 h4
  exact (hr.imp_ (fun _ _ k => k.grow hE (Mv_grow (w1 := w1) h4))).snoc (hp.grow hE (Mv_grow (w1 := w1) h4)) (d.K_len hp.now)
/-- append(v, ys...). -/
theorem ev_append_rows (d : Kd α) {M : Nat → Prop} {w0 W : World} (base : Nat) (hgd : o.guard = none) (s x : Operand) (t e : TypeId) (z : Value) (bytes : Nat)
    (ho : o.op = .call { callee := .builtin .append, args := #[s, x], argTypes := #[t, t] })
    (ht : P.underlying t = some (.slice e)) (hinfo : (P.info? e).map (fun i => (i.zero, i.size, i.bytes)) = some (some z, d.sz, bytes)) (hz : z.cells.size = d.sz) (hs0 : 0 < d.sz) (hb0 : 0 < bytes)
    (v : Value) (xs ys : List α) (A : Option Addr) (m c : Nat) (hs : a.eval s = v) (hx : a.eval x = .slice A m c)
    (HO : OwnE d M e base W v xs) (HR : ReadsRow (fun x cs => cs.length = d.sz ∧ (∀ u ∈ cs, u.oneCell' = true) ∧ Ever (Mv M v) W (fun W => d.K W x cs)) d.sz W A m ys)
    (HB : Below base w0 W) (hbase : base ≤ W.heap.size) (hl : (xs.length + m) * bytes ≤ 140737488355328)
    (h : ∀ v1 w1, OwnE d M e base w1 v1 (xs ++ ys) → Below base w0 w1 → W.grownBy w1 v.ownBlock → (v1.ownBlock = v.ownBlock ∨ ∃ b, v1.ownBlock = some b ∧ W.heap.size ≤ b) → wpList P ops Q rest (a.put o.dst v1) w1) :
    wpList P ops Q (o :: rest) a W := by
  obtain ⟨i0, hi, hzz⟩ := Option.map_eq_some_iff.1 hinfo
  simp only [Prod.mk.injEq] at hzz
  obtain ⟨hz0, hz1, hz2⟩ := hzz
  have hm : ys.length = m := HR.1
  have hlen : xs.length + m ≤ 140737488355328 := Nat.le_trans (Nat.le_mul_of_pos_right _ hb0) hl
  obtain ⟨inner, hown, hr⟩ := HO
  rcases A with _ | ad
  · have h0 : m = 0 := by
      rcases Nat.eq_zero_or_pos m with h0 | h0
      · exact h0
      · obtain ⟨ad, h, _⟩ := HR.2.2 h0
        cases h
    subst h0
    obtain rfl : ys = [] := List.eq_nil_of_length_eq_zero hm
    have hrun : (Builtin.append_ #[t, t] o.type #[v, .slice none 0 c]).run P W = .ok v W := by
      rcases hown.2 with ⟨rfl, hn⟩ | ⟨g, cap, cur, rfl, _, _, hnc, _⟩
      · simp [Builtin.append_, run_underlying ht, sizeOf, typeInfo, hi, Builtin.lenOf, Builtin.firstCells]
      · simp [Builtin.append_, run_underlying ht, sizeOf, typeInfo, hi, Builtin.lenOf, Builtin.firstCells, hnc, storeCells]
    refine wpList_plain hgd fun K hK => ?_
    unfold Oper.wp execOp
    simp only [ho, resolve, invoke, builtin, Sem.run_bind, Sem.run_pure, Result.andThen_ok, List.map_toArray, List.map_cons, List.map_nil, hs, hx, hrun]
    exact hK _ _ (h v W (by rw [List.append_nil]; exact ⟨inner, hown, hr⟩) HB (World.grownBy.refl W _) (.inl rfl))
  · obtain ⟨news, hnr, hnc⟩ := ReadsRow.inner_ HR
    have hone : ∀ u ∈ news, u.oneCell' = true := by
      intro u hu
      obtain ⟨q, hq, rfl⟩ := List.mem_iff_getElem.1 hu
      have hql : q / d.sz < ys.length := by
        rw [Nat.div_lt_iff_lt_mul hs0]
        rw [← hnr.1]
        exact hq
      have hc := hnr.2 (q / d.sz) _ (List.getElem?_eq_getElem hql)
      refine hc.2.1 _ ?_
      rw [List.mem_iff_getElem?]
      refine ⟨q % d.sz, ?_⟩
      rw [List.getElem?_take, if_pos (Nat.mod_lt _ hs0), List.getElem?_drop, Nat.mul_comm, Nat.div_add_mod, List.getElem?_eq_getElem hq]
    refine wpList_append_own_at W hgd s x t ho base e i0 z d.sz bytes ht hi hz0 hz1 hz2 hz hs0 v xs.length inner hs hown ad m c news hx (by rw [hnr.1, hm]) hnc hone (by simp only [maxLen]; omega) hl hbase (fun v1 w1 h1 h3 _ h4 => ?_)
    have h4' : v1.ownBlock = v.ownBlock ∨ ∃ b, v1.ownBlock = some b ∧ W.heap.size ≤ b := by
      rcases h4 with a | a
      · exact .inl a
      · exact .inr ⟨_, a, Nat.le_refl _⟩
    have hE : Ext (Mv M v) W w1 := Ext.of_grown h3
    refine h v1 w1 ⟨inner ++ news, by rw [List.length_append, hm]; exact h1, ?_⟩ (HB.grown h3 hbase (own_base hown)) h3 h4'
    exact Kd.reps_append (hr.imp_ (fun _ _ k => k.grow hE (Mv_grow (w1 := w1) h4'))) (hnr.imp_ (fun _ _ k => k.2.2.grow hE (Mv_grow (w1 := w1) h4')))
end
/-- A row that is read, its cells told. -/
def RowE {α : Type} (d : Kd α) (M : Nat → Prop) (W : World) (A : Option Addr) (n : Nat) (xs : List α) : Prop :=
  xs.length = n ∧ n ≤ 9223372036854775807 ∧ (0 < n → ∃ ad inner, A = some ad ∧ Reps (fun x cs => (cs.length = d.sz ∧ ∀ u ∈ cs, u.oneCell' = true) ∧ Ever M W (fun W => d.K W x cs)) d.sz xs inner ∧ Ever M W (fun W => ∀ i u, inner[i]? = some u → W.cell? (ad.add i) = some u))
section
variable {α : Type} {d : Kd α} {M M' : Nat → Prop} {W w1 : World} {A : Option Addr} {n : Nat} {xs : List α}
theorem RowE.elems (h : RowE d M W A n xs) : ReadsRow (fun x cs => cs.length = d.sz ∧ (∀ u ∈ cs, u.oneCell' = true) ∧ Ever M W (fun W => d.K W x cs)) d.sz W A n xs := by
  refine ⟨h.1, h.2.1, fun hn => ?_⟩
  obtain ⟨ad, inner, rfl, h1, h2⟩ := h.2.2 hn
  refine ⟨ad, rfl, fun j p hj => ⟨(inner.drop (j * d.sz)).take d.sz, (h1.2 j p hj).1.1, ⟨(h1.2 j p hj).1.1, (h1.2 j p hj).1.2, (h1.2 j p hj).2⟩, fun i u hu => ?_⟩⟩
  · refine h2.now _ u ?_
    rw [List.getElem?_take] at hu
    split at hu
    · rw [List.getElem?_drop] at hu
      exact hu
    · cases hu
theorem RowE.ever (h : RowE d M W A n xs) : Ever M W (fun W => d.C W A n xs) := by
  refine ⟨fun w1 k => ⟨h.1, h.2.1, fun hn => ?_⟩⟩
  obtain ⟨ad, inner, rfl, h1, h2⟩ := h.2.2 hn
  refine ⟨ad, rfl, fun j p hj => ⟨(inner.drop (j * d.sz)).take d.sz, (h1.2 j p hj).1.1, (h1.2 j p hj).2.at_ _ k, fun i u hu => ?_⟩⟩
  refine h2.at_ _ k _ u ?_
  rw [List.getElem?_take] at hu
  split at hu
  · rw [List.getElem?_drop] at hu
    exact hu
  · cases hu
theorem RowE.grow (h : RowE d M W A n xs) (k : Ext M W w1) (hM : ∀ k, M' k → M k ∨ W.heap.size ≤ k) : RowE d M' w1 A n xs := by
  refine ⟨h.1, h.2.1, fun hn => ?_⟩
  obtain ⟨ad, inner, rfl, h1, h2⟩ := h.2.2 hn
  exact ⟨ad, inner, rfl, h1.imp_ (fun _ _ a => ⟨a.1, a.2.grow k hM⟩), h2.grow k hM⟩
theorem RowE.step (h : RowE d M W A n xs) (k : Ext M W w1) : RowE d M w1 A n xs := h.grow k (fun _ a => .inl a)
theorem RowE.nil : RowE d M W none ([] : List α).length [] := ⟨rfl, by simp, fun h => absurd h (Nat.lt_irrefl 0)⟩
/-- What came in. -/
theorem RowE.old (h : d.C W A n xs) (hM : ∀ k, M k → W.heap.size ≤ k) : RowE d M W A n xs := by
  refine ⟨h.1, h.2.1, fun hn => ?_⟩
  obtain ⟨ad, rfl, hc⟩ := h.2.2 hn
  obtain ⟨inner, hr, hcell⟩ := ReadsRow.inner_ h
  refine ⟨ad, inner, rfl, ?_, ?_⟩
  · refine hr.imp_ (fun x cs hk => ⟨⟨d.K_len hk, d.K_one hk⟩, Ever.old hk (fun _ hb => d.K_below hb hk) hM⟩)
  · exact Ever.old hcell (fun _ hb i u hu => pw_cell_below hb (hcell i u hu)) hM
theorem OwnE.row {e : TypeId} {base : Nat} {v : Value} (h : OwnE d M e base W v xs) (hM : ∀ k, v.ownBlock = some k → ¬ M k) : ∃ A c, v = .slice A xs.length c ∧ xs.length ≤ c ∧ RowE d M W A xs.length xs := by
  obtain ⟨i, h1, h2⟩ := h
  obtain ⟨A, c, rfl⟩ := own_slice h1
  have hm := (own_reads_row h1 (h2.imp_ (R' := fun _ _ => True) (fun _ _ _ => trivial)) rfl)
  obtain ⟨A', c', e', hmx⟩ := hm
  cases e'
  refine ⟨A, c, rfl, own_cap h1, rfl, hmx.2.1, fun hn => ?_⟩
  obtain ⟨g, cap, e', _, _⟩ := h1.form hn
  cases e'
  refine ⟨_, i, rfl, h2.imp_ (fun _ _ a => ⟨⟨d.K_len a.now, d.K_one a.now⟩, a.grow (Ext.refl _ _) (fun _ b => .inl (.inl b))⟩), ⟨fun w1 k j u hu => ?_⟩⟩
  exact (own_move h1 (fun b hb => k.block b (own_lt h1 b hb) (hM b hb))).cells rfl j u hu
end
/-- A value that is a row, to be read. -/
def IsRow {α : Type} (d : Kd α) (M : Nat → Prop) (W : World) (v : Value) (xs : List α) : Prop := ∃ A c, v = .slice A xs.length c ∧ xs.length ≤ c ∧ RowE d M W A xs.length xs
theorem IsRow.grow {α : Type} {d : Kd α} {M M' : Nat → Prop} {W w1 : World} {v : Value} {xs : List α} (h : IsRow d M W v xs) (k : Ext M W w1) (hM : ∀ k, M' k → M k ∨ W.heap.size ≤ k) : IsRow d M' w1 v xs := by
  obtain ⟨A, c, e, hc, h⟩ := h
  exact ⟨A, c, e, hc, h.grow k hM⟩
theorem IsRow.step {α : Type} {d : Kd α} {M : Nat → Prop} {W w1 : World} {v : Value} {xs : List α} (h : IsRow d M W v xs) (k : Ext M W w1) : IsRow d M w1 v xs := h.grow k (fun _ a => .inl a)
theorem new_blk {W : World} {o : Obj} {g : Nat} (hg : g = W.heap.size) : (W.alloc o).heap[g]? = some o := by subst hg; exact heap_alloc_new W o
end Go.Proofs.Ytabjlanomebonaa.Core

/- The words, contracts and walks that this claim leans on, put together by a program of this session (part 1). -/
import Derived.Test.YtocicifgglkaeaaZS0
import Derived.Test.YtocicifgglkaeaaProg
import Derived.Laws.StructEq
import Derived.MapKept
import Derived.Laws.CopyOwn
import Derived.Laws.CopyRow
section
namespace Go.Proofs.Ytocicifgglkaeaa.PPduSizes
open Go.RowKit Go.Proofs.YtocicifgglkaeaaW.PrintWords Go.Proofs.YtocicifgglkaeaaW.PrintLast Go.Proofs.YtocicifgglkaeaaW.PrintMore
attribute [local go_sem] max2_int min2_int max_two min_two max_three min_three max_four min_four   
set_option linter.unusedVariables false
set_option linter.unusedSimpArgs false
theorem info3 : (Try.prog.info? 3).map (fun i => (i.zero, i.size, i.bytes)) = some (some (.int .i64 0), 1, 8) := by kernel_rfl
end Go.Proofs.Ytocicifgglkaeaa.PPduSizes
end

section
namespace Go.Proofs.Ytocicifgglkaeaa.Core
open Go.RowKit Go.Proofs.YtocicifgglkaeaaW.PrintWords Go.Proofs.YtocicifgglkaeaaW.PrintLast Go.Proofs.YtocicifgglkaeaaW.PrintMore
set_option linter.unusedVariables false
set_option linter.unusedSimpArgs false
structure Ext (M : Nat → Prop) (w w' : World) : Prop where
  os : w'.os = w.os
  tape : w'.tape = w.tape
  output : w'.output = w.output
  size : w.heap.size ≤ w'.heap.size
  block : ∀ k, k < w.heap.size → ¬ M k → w'.heap[k]? = w.heap[k]?
structure Ever (M : Nat → Prop) (w : World) (P : World → Prop) : Prop where
  at_ : ∀ w', Ext M w w' → P w'
section
variable {M M' : Nat → Prop} {w w1 w2 W : World} {P Q : World → Prop}
theorem Ext.refl (M : Nat → Prop) (w : World) : Ext M w w := ⟨rfl, rfl, rfl, Nat.le_refl _, fun _ _ _ => rfl⟩
theorem Ext.trans (h : Ext M w w1) (k : Ext M w1 w2) : Ext M w w2 :=
  ⟨k.os.trans h.os, k.tape.trans h.tape, k.output.trans h.output, Nat.le_trans h.size k.size, fun i hi hm => (k.block i (Nat.lt_of_lt_of_le hi h.size) hm).trans (h.block i hi hm)⟩
theorem Ext.mono (h : Ext M w w1) (hm : ∀ k, k < w.heap.size → M k → M' k) : Ext M' w w1 := ⟨h.os, h.tape, h.output, h.size, fun i hi hn => h.block i hi (fun a => hn (hm i hi a))⟩
theorem Ext.of_below (h : Below w.heap.size w w1) : Ext M w w1 := ⟨h.os, h.tape, h.output, h.size, fun i hi _ => h.block i hi⟩
theorem Ext.then_below (h : Ext M w w1) (k : Below w1.heap.size w1 w2) : Ext M w w2 := h.trans (.of_below k)
theorem Ext.alloc (h : Ext M w W) (o : Obj) : Ext M w (W.alloc o) := h.then_below (below_alloc (Below.refl _ _) o)
theorem Ext.drew (h : Ext M w W) : Ext M w W.drew := h.then_below (below_drew1 (Below.refl _ _))
theorem Ext.set (h : Ext M w W) {g j : Nat} (hg : M g) (v : Value) : Ext M w (W.setCell ⟨g, j, none⟩ v) :=
  h.trans ⟨rfl, rfl, rfl, by simp [World.setCell], fun k _ hk => Below.heap_setCell _ _ _ _ (fun e => hk (by simpa using e ▸ hg))⟩
theorem Ext.grown (h : Ext M w W) {row : Option Nat} (hg : W.grownBy w1 row) (hr : ∀ k, row = some k → M k ∨ w.heap.size ≤ k) : Ext M w w1 :=
  ⟨hg.os.trans h.os, hg.tape.trans h.tape, hg.output.trans h.output, Nat.le_trans h.size hg.size, fun k hk hm => (hg.block k (Nat.lt_of_lt_of_le hk h.size) (fun e => by rcases hr k e.symm with a | a; exact hm a; omega)).trans (h.block k hk hm)⟩
theorem Ext.below (h : Ext M w W) (hM : ∀ k, M k → w.heap.size ≤ k) : Below w.heap.size w W := ⟨h.os, h.tape, h.output, h.size, fun k hk => h.block k hk (fun a => by have := hM k a; omega)⟩
theorem Ext.grow (h : Ext M w W) (k : Ext M' W w2) (hM : ∀ k, M' k → M k ∨ w.heap.size ≤ k) : Ext M w w2 :=
  ⟨k.os.trans h.os, k.tape.trans h.tape, k.output.trans h.output, Nat.le_trans h.size k.size, fun i hi hm => (k.block i (Nat.lt_of_lt_of_le hi h.size) (fun a => by rcases hM i a with b | b; exact hm b; omega)).trans (h.block i hi hm)⟩
theorem Ext.setg {g j : Nat} (h : Ext (fun k => k = g) w W) (v : Value) : Ext (fun k => k = g) w (W.setCell ⟨g, j, none⟩ v) := Ext.set h (M := fun k => k = g) rfl v
theorem Ever.now (h : Ever M w P) : P w := h.at_ w (Ext.refl _ _)
theorem Ever.step (h : Ever M w P) (k : Ext M w w1) : Ever M w1 P := ⟨fun w2 h2 => h.at_ w2 (k.trans h2)⟩
theorem Ever.grow (h : Ever M w P) (k : Ext M w w1) (hM : ∀ k, M' k → M k ∨ w.heap.size ≤ k) : Ever M' w1 P := ⟨fun w2 h2 => h.at_ w2 (k.grow h2 hM)⟩
theorem Ever.imp (h : Ever M w P) (k : ∀ w, P w → Q w) : Ever M w Q := ⟨fun w1 h1 => k _ (h.at_ w1 h1)⟩
theorem Ever.and (h : Ever M w P) (k : Ever M w Q) : Ever M w (fun w => P w ∧ Q w) := ⟨fun w1 h1 => ⟨h.at_ w1 h1, k.at_ w1 h1⟩⟩
theorem Ever.old (h : P w) (hb : ∀ w1, Below w.heap.size w w1 → P w1) (hM : ∀ k, M k → w.heap.size ≤ k) : Ever M w P := ⟨fun w1 h1 => hb w1 (h1.below hM)⟩
theorem Ever.C {α : Type} {d : Kd α} {A : Option Addr} {n : Nat} {xs : List α} (h : d.C w A n xs) (hM : ∀ k, M k → w.heap.size ≤ k) : Ever M w (fun W => d.C W A n xs) := .old h (fun _ hb => Kd.C_below h hb) hM
theorem Ever.R {α : Type} {d : Kd α} {e base : Nat} {ok : Nat → Prop} {A : Option Addr} {n c : Nat} {xs : List α} (h : d.R e w base ok (.slice A n c) xs) (hM : ∀ k, M k → k < base) : Ever M w (fun W => d.C W A xs.length xs) := by
  refine ⟨fun w1 h1 => ?_⟩
  have h2 : d.R e w1 base (fun k => ok k ∧ base ≤ k ∧ k < w.heap.size ∧ ∃ q, q ∈ e :: d.E ∧ ∃ cells, w.heap[k]? = some (.cells cells q (0, 0))) (.slice A n c) xs :=
    Kd.R_move (Kd.R_bound h) (fun k hk => h1.block k hk.2.2.1 (fun a => by have := hM k a; have := hk.2.1; omega))
  exact (Kd.R_reads' h2).2.2
theorem Ever.blk {g : Nat} {o : Obj} (h : w.heap[g]? = some o) (hM : ¬ M g) : Ever M w (fun W => W.heap[g]? = some o) := ⟨fun w1 h1 => (h1.block g (blk_lt h) hM).trans h⟩
theorem Ever.nil {α : Type} (d : Kd α) : Ever M w (fun W => d.C W none ([] : List α).length []) := ⟨fun w1 _ => Kd.C_nil d w1⟩
end
section
variable {α : Type} {enc : α → Value} {h1 : ∀ x, (enc x).oneCell' = true} {M : Nat → Prop} {w : World} {A : Option Addr}
theorem Ever.take {d : Kd α} {xs : List α} (h : Ever M w (fun W => d.C W A xs.length xs)) {m : Nat} (hm : m ≤ xs.length) : Ever M w (fun W => d.C W A (xs.take m).length (xs.take m)) := h.imp (fun _ k => Kd.C_take k hm)
end
def Mv (M : Nat → Prop) (v : Value) (k : Nat) : Prop := M k ∨ some k = v.ownBlock
def OwnE {α : Type} (d : Kd α) (M : Nat → Prop) (e : TypeId) (base : Nat) (W : World) (v : Value) (xs : List α) : Prop :=
  ∃ inner, W.ownsRow base e d.sz v xs.length inner ∧ Reps (fun x cs => Ever (Mv M v) W (fun W => d.K W x cs)) d.sz xs inner
section
variable {α : Type} {d : Kd α} {M M' : Nat → Prop} {e : TypeId} {base : Nat} {W w1 : World} {v v1 : Value} {xs : List α} {P : World → Prop}
theorem OwnE.nil (d : Kd α) (M : Nat → Prop) (e : TypeId) (base : Nat) (W : World) : OwnE d M e base W (.slice none 0 0) [] := ⟨[], own_nil W base e d.sz, Reps.none _ _⟩
theorem OwnE.slice (h : OwnE d M e base W v xs) : ∃ A c, v = .slice A xs.length c := by obtain ⟨i, h, _⟩ := h; exact own_slice h
theorem OwnE.step (h : OwnE d M e base W v xs) (k : Ext (Mv M v) W w1) (hv : ∀ k, v.ownBlock = some k → w1.heap[k]? = W.heap[k]?) : OwnE d M e base w1 v xs := by
  obtain ⟨i, h1, h2⟩ := h
  exact ⟨i, own_move h1 hv, h2.imp_ (fun _ _ h => h.step k)⟩
theorem OwnE.below (h : OwnE d M e base W v xs) (k : Below W.heap.size W w1) : OwnE d M e base w1 v xs := by
  obtain ⟨i, h1, h2⟩ := h
  exact ⟨i, pw_own_below h1 k, h2.imp_ (fun _ _ h => h.step (.of_below k))⟩
theorem OwnE.ext (h : OwnE d M e base W v xs) (k : Ext M W w1) (hM : ∀ k, v.ownBlock = some k → ¬ M k) : OwnE d M e base w1 v xs := by
  have h0 := h
  obtain ⟨i, h1, h2⟩ := h0
  exact h.step (k.mono (fun _ _ a => .inl a)) (fun b hb => k.block b (own_lt h1 b hb) (hM b hb))
theorem OwnE.lt (h : OwnE d M e base W v xs) (k : Nat) (hk : v.ownBlock = some k) : k < W.heap.size := by obtain ⟨i, h1, _⟩ := h; exact own_lt h1 k hk
theorem OwnE.view (h : OwnE d M e base W v xs) (hM : ∀ k, v.ownBlock = some k → ¬ M k) : ∃ A c, v = .slice A xs.length c ∧ xs.length ≤ c ∧ Ever M W (fun W => d.C W A xs.length xs) := by
  obtain ⟨i, h1, h2⟩ := h
  obtain ⟨A, c, rfl⟩ := own_slice h1
  refine ⟨A, c, rfl, own_cap h1, ⟨fun w1 k => ?_⟩⟩
  have h3 : w1.ownsRow base e d.sz (.slice A xs.length c) xs.length i := own_move h1 (fun b hb => k.block b (own_lt h1 b hb) (hM b hb))
  have h4 : Reps (d.K w1) d.sz xs i := h2.imp_ (fun _ _ h => h.at_ _ (k.mono (fun _ _ a => .inl a)))
  obtain ⟨A', c', e', h5⟩ := own_reads_row h3 h4 rfl
  cases e'
  exact h5
theorem Mv_grow {W w1 : World} (hat : v1.ownBlock = v.ownBlock ∨ ∃ b, v1.ownBlock = some b ∧ W.heap.size ≤ b) (k : Nat) (h : Mv M v1 k) : Mv M v k ∨ W.heap.size ≤ k := by
  rcases h with h | h
  · exact .inl (.inl h)
  · rcases hat with a | ⟨b, a, hb⟩
    · exact .inl (.inr (h.trans a))
    · rw [a] at h; injection h with h; exact .inr (by omega)
theorem Ext.of_grown (h : W.grownBy w1 v.ownBlock) : Ext (Mv M v) W w1 := ⟨h.os, h.tape, h.output, h.size, fun k hk hm => h.block k hk (fun e => hm (.inr e))⟩
end
section
variable {P : Program} {ops : Array Oper} {rest : List Oper} {o : Oper} {a : Act} {Q : Exit → Act → World → Prop} {α : Type}
theorem ev_append_rows (d : Kd α) {M : Nat → Prop} {w0 W : World} (base : Nat) (hgd : o.guard = none) (s x : Operand) (t e : TypeId) (z : Value) (bytes : Nat)
    (ho : o.op = .call { callee := .builtin .append, args := #[s, x], argTypes := #[t, t] })
    (ht : P.underlying t = some (.slice e)) (hinfo : (P.info? e).map (fun i => (i.zero, i.size, i.bytes)) = some (some z, d.sz, bytes)) (hz : z.cells.size = d.sz) (hs0 : 0 < d.sz) (hb0 : 0 < bytes)
    (v : Value) (xs ys : List α) (A : Option Addr) (m c : Nat) (hs : a.eval s = v) (hx : a.eval x = .slice A m c)
    (HO : OwnE d M e base W v xs) (HR : ReadsRow (fun x cs => cs.length = d.sz ∧ (∀ u ∈ cs, u.oneCell' = true) ∧ Ever (Mv M v) W (fun W => d.K W x cs)) d.sz W A m ys)
    (HB : Below base w0 W) (hbase : base ≤ W.heap.size) (hl : (xs.length + m) * bytes ≤ 140737488355328)
    (h : ∀ v1 w1, OwnE d M e base w1 v1 (xs ++ ys) → Below base w0 w1 → W.grownBy w1 v.ownBlock → (v1.ownBlock = v.ownBlock ∨ ∃ b, v1.ownBlock = some b ∧ W.heap.size ≤ b) → wpList P ops Q rest (a.put o.dst v1) w1) :
    wpList P ops Q (o :: rest) a W := by
  obtain ⟨i0, hi, hzz⟩ := Option.map_eq_some_iff.1 hinfo
  simp only [Prod.mk.injEq] at hzz
  obtain ⟨hz0, hz1, hz2⟩ := hzz
  have hm : ys.length = m := HR.1
  have hlen : xs.length + m ≤ 140737488355328 := Nat.le_trans (Nat.le_mul_of_pos_right _ hb0) hl
  obtain ⟨inner, hown, hr⟩ := HO
  rcases A with _ | ad
  · have h0 : m = 0 := by
      rcases Nat.eq_zero_or_pos m with h0 | h0
      · exact h0
      · obtain ⟨ad, h, _⟩ := HR.2.2 h0
        cases h
    subst h0
    obtain rfl : ys = [] := List.eq_nil_of_length_eq_zero hm
    have hrun : (Builtin.append_ #[t, t] o.type #[v, .slice none 0 c]).run P W = .ok v W := by
      rcases hown.2 with ⟨rfl, hn⟩ | ⟨g, cap, cur, rfl, _, _, hnc, _⟩
      · simp [Builtin.append_, run_underlying ht, sizeOf, typeInfo, hi, Builtin.lenOf, Builtin.firstCells]
      · simp [Builtin.append_, run_underlying ht, sizeOf, typeInfo, hi, Builtin.lenOf, Builtin.firstCells, hnc, storeCells]
    refine wpList_plain hgd fun K hK => ?_
    unfold Oper.wp execOp
    simp only [ho, resolve, invoke, builtin, Sem.run_bind, Sem.run_pure, Result.andThen_ok, List.map_toArray, List.map_cons, List.map_nil, hs, hx, hrun]
    exact hK _ _ (h v W (by rw [List.append_nil]; exact ⟨inner, hown, hr⟩) HB (World.grownBy.refl W _) (.inl rfl))
  · obtain ⟨news, hnr, hnc⟩ := ReadsRow.inner_ HR
    have hone : ∀ u ∈ news, u.oneCell' = true := by
      intro u hu
      obtain ⟨q, hq, rfl⟩ := List.mem_iff_getElem.1 hu
      have hql : q / d.sz < ys.length := by
        rw [Nat.div_lt_iff_lt_mul hs0]
        rw [← hnr.1]
        exact hq
      have hc := hnr.2 (q / d.sz) _ (List.getElem?_eq_getElem hql)
      refine hc.2.1 _ ?_
      rw [List.mem_iff_getElem?]
      refine ⟨q % d.sz, ?_⟩
      rw [List.getElem?_take, if_pos (Nat.mod_lt _ hs0), List.getElem?_drop, Nat.mul_comm, Nat.div_add_mod, List.getElem?_eq_getElem hq]
    refine wpList_append_own_at W hgd s x t ho base e i0 z d.sz bytes ht hi hz0 hz1 hz2 hz hs0 v xs.length inner hs hown ad m c news hx (by rw [hnr.1, hm]) hnc hone (by simp only [maxLen]; omega) hl hbase (fun v1 w1 h1 h3 _ h4 => ?_)
    have h4' : v1.ownBlock = v.ownBlock ∨ ∃ b, v1.ownBlock = some b ∧ W.heap.size ≤ b := by
      rcases h4 with a | a
      · exact .inl a
      · exact .inr ⟨_, a, Nat.le_refl _⟩
    have hE : Ext (Mv M v) W w1 := Ext.of_grown h3
    refine h v1 w1 ⟨inner ++ news, by rw [List.length_append, hm]; exact h1, ?_⟩ (HB.grown h3 hbase (own_base hown)) h3 h4'
    exact Kd.reps_append (hr.imp_ (fun _ _ k => k.grow hE (Mv_grow (w1 := w1) h4'))) (hnr.imp_ (fun _ _ k => k.2.2.grow hE (Mv_grow (w1 := w1) h4')))
end
def RowE {α : Type} (d : Kd α) (M : Nat → Prop) (W : World) (A : Option Addr) (n : Nat) (xs : List α) : Prop :=
  xs.length = n ∧ n ≤ 9223372036854775807 ∧ (0 < n → ∃ ad inner, A = some ad ∧ Reps (fun x cs => (cs.length = d.sz ∧ ∀ u ∈ cs, u.oneCell' = true) ∧ Ever M W (fun W => d.K W x cs)) d.sz xs inner ∧ Ever M W (fun W => ∀ i u, inner[i]? = some u → W.cell? (ad.add i) = some u))
section
variable {α : Type} {d : Kd α} {M M' : Nat → Prop} {W w1 : World} {A : Option Addr} {n : Nat} {xs : List α}
theorem RowE.elems (h : RowE d M W A n xs) : ReadsRow (fun x cs => cs.length = d.sz ∧ (∀ u ∈ cs, u.oneCell' = true) ∧ Ever M W (fun W => d.K W x cs)) d.sz W A n xs := by
  refine ⟨h.1, h.2.1, fun hn => ?_⟩
  obtain ⟨ad, inner, rfl, h1, h2⟩ := h.2.2 hn
  refine ⟨ad, rfl, fun j p hj => ⟨(inner.drop (j * d.sz)).take d.sz, (h1.2 j p hj).1.1, ⟨(h1.2 j p hj).1.1, (h1.2 j p hj).1.2, (h1.2 j p hj).2⟩, fun i u hu => ?_⟩⟩
  · refine h2.now _ u ?_
    rw [List.getElem?_take] at hu
    split at hu
    · rw [List.getElem?_drop] at hu
      exact hu
    · cases hu
theorem RowE.grow (h : RowE d M W A n xs) (k : Ext M W w1) (hM : ∀ k, M' k → M k ∨ W.heap.size ≤ k) : RowE d M' w1 A n xs := by
  refine ⟨h.1, h.2.1, fun hn => ?_⟩
  obtain ⟨ad, inner, rfl, h1, h2⟩ := h.2.2 hn
  exact ⟨ad, inner, rfl, h1.imp_ (fun _ _ a => ⟨a.1, a.2.grow k hM⟩), h2.grow k hM⟩
theorem RowE.step (h : RowE d M W A n xs) (k : Ext M W w1) : RowE d M w1 A n xs := h.grow k (fun _ a => .inl a)
theorem RowE.nil : RowE d M W none ([] : List α).length [] := ⟨rfl, by simp, fun h => absurd h (Nat.lt_irrefl 0)⟩
theorem RowE.old (h : d.C W A n xs) (hM : ∀ k, M k → W.heap.size ≤ k) : RowE d M W A n xs := by
  refine ⟨h.1, h.2.1, fun hn => ?_⟩
  obtain ⟨ad, rfl, hc⟩ := h.2.2 hn
  obtain ⟨inner, hr, hcell⟩ := ReadsRow.inner_ h
  refine ⟨ad, inner, rfl, ?_, ?_⟩
  · refine hr.imp_ (fun x cs hk => ⟨⟨d.K_len hk, d.K_one hk⟩, Ever.old hk (fun _ hb => d.K_below hb hk) hM⟩)
  · exact Ever.old hcell (fun _ hb i u hu => pw_cell_below hb (hcell i u hu)) hM
theorem OwnE.row {e : TypeId} {base : Nat} {v : Value} (h : OwnE d M e base W v xs) (hM : ∀ k, v.ownBlock = some k → ¬ M k) : ∃ A c, v = .slice A xs.length c ∧ xs.length ≤ c ∧ RowE d M W A xs.length xs := by
  obtain ⟨i, h1, h2⟩ := h
  obtain ⟨A, c, rfl⟩ := own_slice h1
  have hm := (own_reads_row h1 (h2.imp_ (R' := fun _ _ => True) (fun _ _ _ => trivial)) rfl)
  obtain ⟨A', c', e', hmx⟩ := hm
  cases e'
  refine ⟨A, c, rfl, own_cap h1, rfl, hmx.2.1, fun hn => ?_⟩
  obtain ⟨g, cap, e', _, _⟩ := h1.form hn
  cases e'
  refine ⟨_, i, rfl, h2.imp_ (fun _ _ a => ⟨⟨d.K_len a.now, d.K_one a.now⟩, a.grow (Ext.refl _ _) (fun _ b => .inl (.inl b))⟩), ⟨fun w1 k j u hu => ?_⟩⟩
  exact (own_move h1 (fun b hb => k.block b (own_lt h1 b hb) (hM b hb))).cells rfl j u hu
end
def IsRow {α : Type} (d : Kd α) (M : Nat → Prop) (W : World) (v : Value) (xs : List α) : Prop := ∃ A c, v = .slice A xs.length c ∧ xs.length ≤ c ∧ RowE d M W A xs.length xs
theorem IsRow.grow {α : Type} {d : Kd α} {M M' : Nat → Prop} {W w1 : World} {v : Value} {xs : List α} (h : IsRow d M W v xs) (k : Ext M W w1) (hM : ∀ k, M' k → M k ∨ W.heap.size ≤ k) : IsRow d M' w1 v xs := by
  obtain ⟨A, c, e, hc, h⟩ := h
  exact ⟨A, c, e, hc, h.grow k hM⟩
theorem IsRow.step {α : Type} {d : Kd α} {M : Nat → Prop} {W w1 : World} {v : Value} {xs : List α} (h : IsRow d M W v xs) (k : Ext M W w1) : IsRow d M w1 v xs := h.grow k (fun _ a => .inl a)
theorem new_blk {W : World} {o : Obj} {g : Nat} (hg : g = W.heap.size) : (W.alloc o).heap[g]? = some o := by subst hg; exact heap_alloc_new W o
end Go.Proofs.Ytocicifgglkaeaa.Core
end

section
set_option linter.unusedVariables false
set_option linter.unusedSimpArgs false
namespace Go.Proofs.Ytocicifgglkaeaa.Wk
open Go.RowKit Go.Proofs.YtocicifgglkaeaaW.PrintWords Go.Proofs.YtocicifgglkaeaaW.PrintLast Go.Proofs.YtocicifgglkaeaaW.PrintMore Go.Proofs.Ytocicifgglkaeaa.Core
end Go.Proofs.Ytocicifgglkaeaa.Wk
namespace Go.Proofs.Ytocicifgglkaeaa.Core
open Go.RowKit Go.Proofs.YtocicifgglkaeaaW.PrintWords Go.Proofs.YtocicifgglkaeaaW.PrintLast Go.Proofs.YtocicifgglkaeaaW.PrintMore
section
variable {M M' F : Nat → Prop} {w w1 w2 W W' : World} {P Q : World → Prop} {g : Nat}
theorem Ext.blk {o : Obj} (h : Ext F W W') (hb : W.heap[g]? = some o) (hg : ¬ F g) : W'.heap[g]? = some o := (h.block g (blk_lt hb) hg).trans hb
theorem Ext.sub (h : Ext F W W') (hs : ∀ k, F k → M k) : Ext M W W' := h.mono (fun k _ e => hs k e)
theorem Ext.step (h : Ext M w W) (k : Ext F W W') (hF : ∀ k, F k → M k ∨ w.heap.size ≤ k) : Ext M w W' := h.grow k hF
theorem Ext.stepB (h : Ext M w W) (k : Below W.heap.size W W') : Ext M w W' := h.then_below k
theorem Ext.none_ (h : Below W.heap.size W W') : Ext (fun _ => False) W W' := Ext.of_below h
theorem ne_born {h g n : Nat} (hl : h < n) (hg : g = n) : h ≠ g := by omega
def Ms (gs : List Nat) (k : Nat) : Prop := k ∈ gs
theorem Ms.old {r : Nat} {gs : List Nat} : ∀ k, Ms gs k → Ms (r :: gs) k := fun _ h => List.mem_cons_of_mem _ h
theorem Ms.lt (gs : List Nat) {n n' : Nat} (h : ∀ k, Ms gs k → k < n) (hn : n ≤ n') : ∀ k, Ms gs k → k < n' := fun k hk => Nat.lt_of_lt_of_le (h k hk) hn
theorem rowset {g i : Nat} {v : Int} {k : IntKind} {xs : List Int} {e : TypeId} (hw : W' = W.setCell ⟨g, i, none⟩ (.int k v)) (hb : W.heap[g]? = some (.cells (xs.map (Value.int k)).toArray e (0, 0))) :
    W'.heap[g]? = some (.cells ((xs.set i v).map (Value.int k)).toArray e (0, 0)) ∧ Ext (fun k => k = g) W W' := by
  subst hw
  refine ⟨blk_put hb i _ ?_, (Ext.refl _ _).setg _⟩
  rw [List.map_set, List.setIfInBounds_toArray]
theorem row_cell {g i : Nat} {k : IntKind} {xs : List Int} {e : TypeId} (hb : W.heap[g]? = some (.cells (xs.map (Value.int k)).toArray e (0, 0))) (hi : i < xs.length) : W.cell? ⟨g, i, none⟩ = some (.int k (xs.getD i 0)) := by
  rw [blk_cell hb i]
  simp only [List.getElem?_toArray, List.getElem?_map, List.getD_eq_getElem?_getD, List.getElem?_eq_getElem hi, Option.map_some, Option.getD_some]
theorem put1 {g i : Nat} {v : Value} {cs cs' : Array Value} {T : TypeId} (hw : W' = W.setCell ⟨g, i, none⟩ v) (hb : W.heap[g]? = some (.cells cs T (0, 0))) (hc : cs.setIfInBounds i v = cs') :
    W'.heap[g]? = some (.cells cs' T (0, 0)) ∧ Ext (fun k => k = g) W W' := by
  subst hw
  exact ⟨blk_put hb i v hc, (Ext.refl _ _).setg v⟩
theorem Ever.ofRow {xs : List Int} {k : IntKind} {e : TypeId} {n : Nat} (h : W.heap[g]? = some (.cells (xs.map (Value.int k)).toArray e (0, 0))) (hl : xs.length ≤ 9223372036854775807) (hM : ¬ M g) : Ever M W (fun W => Kd.C (Kd.int k) W (some ⟨g, 0, none⟩) xs.length xs) := by
  refine (Ever.blk h hM).imp (fun W1 h1 => ?_)
  refine Kd.C_of_reads (enc := Value.int k) (d := (0 : Int)) (h1 := fun _ => rfl) (show ReadsInt W1 k _ _ _ from ⟨rfl, hl, fun hn => ⟨_, rfl, fun j hj => ?_⟩⟩)
  have : (⟨g, 0, none⟩ : Addr).add j = ⟨g, j, none⟩ := by simp [Addr.add] <;> omega
  rw [this, blk_cell h1 j]
  simp only [List.getElem?_toArray, List.getElem?_map, List.getD_eq_getElem?_getD, List.getElem?_eq_getElem hj, Option.map_some, Option.getD_some]
theorem row_C {xs : List Int} {k : IntKind} {e : TypeId} (h : W.heap[g]? = some (.cells (xs.map (Value.int k)).toArray e (0, 0))) (hl : xs.length ≤ 9223372036854775807) : Kd.C (Kd.int k) W (some ⟨g, 0, none⟩) xs.length xs :=
  (Ever.ofRow (M := fun _ => False) (n := 0) h hl (fun a => a)).now
theorem C_cell {xs : List Int} {k : IntKind} {A : Option Addr} (h : Kd.C (Kd.int k) W A xs.length xs) (hn : 0 < xs.length) : ∃ ad, A = some ad ∧ ∀ j, j < xs.length → W.cell? (ad.add j) = some (.int k (xs.getD j 0)) := (Kd.reads_of_C h).2.2 hn
end
end Go.Proofs.Ytocicifgglkaeaa.Core
namespace Go.Proofs.Ytocicifgglkaeaa.Wk
open Go.RowKit Go.Proofs.YtocicifgglkaeaaW.PrintWords Go.Proofs.YtocicifgglkaeaaW.PrintLast Go.Proofs.YtocicifgglkaeaaW.PrintMore Go.Proofs.Ytocicifgglkaeaa.Core
section
variable {P : Program} {ops : Array Oper} {rest : List Oper} {o : Oper} {a : Act} {Q : Exit → Act → World → Prop} {W : World} {Kc : Act → World → Prop}
theorem run_mk (W : World) {t e : TypeId} {k : IntKind} (ht : P.underlying t = some (.slice e)) (bytes : Nat) (hinfo : (P.info? e).map (fun i => (i.zero, i.size, i.bytes)) = some (some (.int k 0), 1, bytes)) (hb0 : 0 < bytes) (hb8 : bytes ≤ 8) (n : Int) (h0 : 0 ≤ n) (hn : n ≤ 4294967296) :
    ∃ W', (Instr.makeSlice t (.int .i64 n) (.int .i64 n)).run P W = .ok (.slice (some ⟨W.heap.size, 0, none⟩) n.toNat n.toNat) W' ∧
      W'.heap[W.heap.size]? = some (.cells ((List.replicate n.toNat (0 : Int)).map (Value.int k)).toArray e (0, 0)) ∧ Below W.heap.size W W' := by
  obtain ⟨m, rfl⟩ := Int.eq_ofNat_of_zero_le h0
  obtain ⟨i0, hi, hzz⟩ := Option.map_eq_some_iff.1 hinfo
  simp only [Prod.mk.injEq] at hzz
  obtain ⟨hz0, hz1, hz2⟩ := hzz
  have hb : i0.bytes * m ≤ 281474976710656 := by
    rw [hz2]
    exact Nat.le_trans (Nat.mul_le_mul hb8 (show m ≤ 4294967296 by omega)) (by decide)
  obtain ⟨W', hrun, hown, hg⟩ := run_make_full (P := P) W 0 t e i0 (.int k 0) 1 ht hi hz0 hz1 .i64 .i64 m hb (by simp only [maxLen]; omega) (Nat.zero_le _)
  refine ⟨W', by simpa using hrun, ?_, ⟨hg.os, hg.tape, hg.output, hg.size, fun k hk => hg.block k hk (by simp)⟩⟩
  obtain ⟨hl, h2⟩ := hown
  rcases h2 with ⟨h3, _⟩ | ⟨g, cap, cur, he, _, hh, _, _, hs, hx⟩
  · cases h3
  · cases he
    have hcur : cur.toList = ((List.replicate m (0 : Int)).map (Value.int k)) := by
      have h4 : cur.toList.take (m * 1) = cur.toList := List.take_of_length_le (by simp [hs])
      rw [h4] at hx
      rw [hx]
      simp [madeCells, Value.cells]
      apply List.ext_getElem
      · simp
      · intro i h1 h2
        simp [Nat.mod_one]
    rw [hh]
    congr 2
    rw [Int.toNat_natCast]
    rw [← hcur]
end
def keyIs (k : Int) (e : MapEntry) : Bool := match e.key with | .int .i64 a => a == k | _ => false
def mget (es : List MapEntry) (k : Int) : Option Value := (es.find? (keyIs k)).map (·.val)
def IntKeys (es : List MapEntry) : Prop := ∀ e ∈ es, ∃ a, e.key = .int .i64 a
structure IsMap (W : World) (m : Nat) (f : Int → Option Value) (n : Nat) : Prop where
  out : ∃ (es : Array MapEntry) (clock : Nat), W.heap[m]? = some (.map es clock) ∧ IntKeys es.toList ∧ es.size ≤ n ∧ ∀ k, mget es.toList k = f k
section
variable {P : Program} {W W' : World} {m n : Nat} {f : Int → Option Value}
theorem IsMap.lt (h : IsMap W m f n) : m < W.heap.size := by obtain ⟨es, c, hb, _⟩ := h.out; exact (Array.getElem?_eq_some_iff.1 hb).1
theorem IsMap.ext {F : Nat → Prop} (h : IsMap W m f n) (k : Ext F W W') (hm : ¬ F m) : IsMap W' m f n := by
  obtain ⟨es, c, hb, h1⟩ := h.out
  exact ⟨es, c, Ext.blk k hb hm, h1⟩
theorem IsMap.mono {n' : Nat} (h : IsMap W m f n) (hn : n ≤ n') : IsMap W m f n' := by
  obtain ⟨es, c, hb, h1, h2, h3⟩ := h.out
  exact ⟨es, c, hb, h1, Nat.le_trans h2 hn, h3⟩
theorem isKey_int (a : Int) : MapKept.IsKey (.int .i64) (.int .i64 a) := by simp [MapKept.IsKey]
theorem keyIs_iff {e : MapEntry} {k : Int} : keyIs k e = true ↔ e.key = .int .i64 k := by
  unfold keyIs
  split
  · rename_i a h; rw [h]; simp
  · rename_i h; constructor
    · intro h1; cases h1
    · intro h1; exact absurd h1 (h k)
theorem mget_none {es : List MapEntry} {k : Int} (h : ∀ e ∈ es, e.key ≠ .int .i64 k) : mget es k = none := by
  unfold mget
  rw [List.find?_eq_none.2 (fun e he h1 => h e he (keyIs_iff.1 h1))]
  rfl
theorem mget_cons (x : MapEntry) (r : List MapEntry) (k : Int) : mget (x :: r) k = if keyIs k x then some x.val else mget r k := by
  unfold mget
  cases h : keyIs k x
  · rw [List.find?_cons_of_neg (by simp [h])]; simp
  · rw [List.find?_cons_of_pos h]; simp
theorem mget_append (l r : List MapEntry) (k : Int) : mget (l ++ r) k = (mget l k).or (mget r k) := by
  unfold mget
  rw [List.find?_append]
  cases l.find? (keyIs k) <;> simp
theorem find_first {k : Int} : ∀ (l : List MapEntry) (i : Nat), IntKeys l → (Instr.findNow (.int .i64) (.int .i64 k) l i = some none ∧ ∀ e ∈ l, e.key ≠ .int .i64 k) ∨
    ∃ j e, Instr.findNow (.int .i64) (.int .i64 k) l i = some (some (i + j, e.val)) ∧ l[j]? = some e ∧ e.key = .int .i64 k ∧ ∀ q, q < j → ∀ e', l[q]? = some e' → e'.key ≠ .int .i64 k
  | [], i, _ => .inl ⟨rfl, by simp⟩
  | x :: r, i, h => by
    obtain ⟨b, hb⟩ := h x (.head _)
    have hs : Instr.sameNow (.int .i64) (.int .i64 k) x.key = some (k == b) := by rw [hb]; simp [Instr.sameNow]
    by_cases e : k = b
    · subst e
      refine .inr ⟨0, x, by simp [Instr.findNow, hs], rfl, hb, fun q hq => by omega⟩
    · have hne : x.key ≠ .int .i64 k := by rw [hb]; intro q; exact e (by simpa using q.symm)
      have hf : Instr.findNow (.int .i64) (.int .i64 k) (x :: r) i = Instr.findNow (.int .i64) (.int .i64 k) r (i + 1) := by
        have hs' : Instr.sameNow (.int .i64) (.int .i64 k) x.key = some false := by rw [hs]; simp [e]
        simp only [Instr.findNow, hs']
      rcases find_first r (i + 1) (fun y hy => h y (.tail _ hy)) with ⟨h1, h2⟩ | ⟨j, e', h1, h2, h3, h4⟩
      · refine .inl ⟨by rw [hf]; exact h1, fun y hy => ?_⟩
        cases hy with
        | head => exact hne
        | tail _ hy => exact h2 y hy
      · refine .inr ⟨j + 1, e', by rw [hf, h1]; congr 3; omega, by simpa using h2, h3, fun q hq e'' he'' => ?_⟩
        cases q with
        | zero => simp at he''; subst he''; exact hne
        | succ q => exact h4 q (by omega) e'' (by simpa using he'')
theorem mget_set {v : Value} {k : Int} : ∀ {l : List MapEntry} {j : Nat} {e e2 : MapEntry}, l[j]? = some e → e.key = .int .i64 k → e2.key = .int .i64 k → e2.val = v → (∀ q, q < j → ∀ e', l[q]? = some e' → e'.key ≠ .int .i64 k) →
    ∀ x, mget (l.set j e2) x = if x = k then some v else mget l x := by
  intro l
  induction l with
  | nil => intro j e e2 h; simp at h
  | cons y r ih =>
    intro j e e2 hj hk hk2 hv hlt x
    cases j with
    | zero =>
      simp at hj
      subst hj
      rw [List.set_cons_zero, mget_cons, mget_cons]
      have a1 : keyIs x e2 = (k == x) := by unfold keyIs; rw [hk2]
      have a2 : keyIs x y = (k == x) := by unfold keyIs; rw [hk]
      rw [a1, a2]
      by_cases h : x = k
      · subst h; simp [hv]
      · have : (k == x) = false := by simpa using fun e => h e.symm
        simp [this, h]
    | succ j =>
      rw [List.set_cons_succ, mget_cons, mget_cons]
      have hy := hlt 0 (by omega) y rfl
      have ih' := ih (j := j) (e := e) (e2 := e2) (by simpa using hj) hk hk2 hv (fun q hq e' he' => hlt (q + 1) (by omega) e' (by simpa using he')) x
      rw [ih']
      by_cases h : x = k
      · subst h
        have : keyIs x y = false := by
          cases hq : keyIs x y
          · rfl
          · exact absurd (keyIs_iff.1 hq) hy
        simp [this]
      · simp [h]
theorem IsMap.update {t kt et : TypeId} (h : IsMap W m f n) (ht : P.underlying t = some (.map kt et)) (hk : P.underlying kt = some (.int .i64)) (k : Int) (v : Value) :
    ∃ W', (Instr.mapUpdate t (.map (some m)) (.int .i64 k) v).run P W = .ok () W' ∧ IsMap W' m (fun j => if j = k then some v else f j) (n + 1) ∧ Ext (fun b => b = m) W W' := by
  obtain ⟨es, c, hb, hi, hn, hf⟩ := h.out
  have hE : ∀ o', Ext (fun b => b = m) W { W with heap := W.heap.setIfInBounds m o' } := fun o' => ⟨rfl, rfl, rfl, by simp, fun b _ hne => (MapKept.heap_set hb).2 b hne⟩
  rcases find_first (k := k) es.toList 0 hi with ⟨h1, h2⟩ | ⟨j, e, h1, h2, h3, h4⟩
  · refine ⟨{ W with heap := W.heap.setIfInBounds m (.map (es.push ⟨.int .i64 k, v, c⟩) (c + 1)) }, by simp [Instr.mapUpdate, run_underlying ht, MapKept.run_getObj_map hb, MapKept.run_checkKey hk (isKey_int k), MapKept.run_findKey hk h1, MapKept.run_setObj_map _ hb, Result.andThen], ⟨_, _, (MapKept.heap_set hb).1, ?_, by simp; omega, fun x => ?_⟩, hE _⟩
    · intro y hy
      simp at hy
      rcases hy with hy | rfl
      · exact hi y (by simpa using hy)
      · exact ⟨k, rfl⟩
    · rw [Array.toList_push, mget_append, ← hf x]
      by_cases hx : x = k
      · subst hx
        rw [mget_none h2, mget_cons]
        simp [keyIs]
      · rw [mget_cons]
        have : keyIs x ⟨.int .i64 k, v, c⟩ = false := by unfold keyIs; simpa using fun e => hx e.symm
        rw [if_neg hx, this]
        simp [mget]
  · have hj : es[j]? = some e := by simpa using h2
    have hl : (es.modify j fun e => { e with key := .int .i64 k, val := v }).toList = es.toList.set j { e with key := .int .i64 k, val := v } := by
      rw [Array.toList_modify, ChangeMaps.modify_eq_set _ _ _ _ h2]
    refine ⟨{ W with heap := W.heap.setIfInBounds m (.map (es.modify j fun e => { e with key := .int .i64 k, val := v }) c) }, by simp [Instr.mapUpdate, run_underlying ht, MapKept.run_getObj_map hb, MapKept.run_checkKey hk (isKey_int k), MapKept.run_findKey hk h1, hj, h3, MapKept.run_keyThatStays (isKey_int k), MapKept.run_setObj_map _ hb, Result.andThen], ⟨_, _, (MapKept.heap_set hb).1, ?_, by simp; omega, fun x => ?_⟩, hE _⟩
    · intro y hy
      rw [hl] at hy
      rcases List.mem_or_eq_of_mem_set hy with hy | rfl
      · exact hi y hy
      · exact ⟨k, rfl⟩
    · rw [hl, mget_set h2 h3 rfl rfl h4 x, hf x]
end
section
variable {P : Program} {ops : Array Oper} {rest : List Oper} {o : Oper} {a : Act} {Q : Exit → Act → World → Prop} {W : World}
end
end Go.Proofs.Ytocicifgglkaeaa.Wk
end

section
namespace Go.Proofs.Ytocicifgglkaeaa.Chk
open Go.RowKit Go.Proofs.YtocicifgglkaeaaW.PrintWords Go.Proofs.YtocicifgglkaeaaW.PrintLast Go.Proofs.YtocicifgglkaeaaW.PrintMore Go.Proofs.Ytocicifgglkaeaa.Core Go.Proofs.Ytocicifgglkaeaa.Wk
set_option linter.unusedVariables false
set_option linter.unusedSimpArgs false
def wB (lo hi n : Int) : Bool := decide (lo ≤ n ∧ n ≤ hi)
def spB (a n : Int) : Bool := decide (0 ≤ a ∧ a ≤ 65535 ∧ a + n ≤ 65536)
def lowB (m : Int) (l : List Int) : Bool := decide (∀ x ∈ l, 0 ≤ x ∧ x ≤ m)
def smB (lo hi m : Int) (l : List Int) : Bool := wB lo hi l.length && lowB m l
theorem wB_yes {lo hi n : Int} (h0 : lo ≤ n) (h1 : n ≤ hi) : wB lo hi n = true := decide_eq_true ⟨h0, h1⟩
theorem wB_no {lo hi n : Int} (h : ¬ (lo ≤ n ∧ n ≤ hi)) : wB lo hi n = false := decide_eq_false h
theorem wB_iff {lo hi n : Int} : wB lo hi n = true ↔ lo ≤ n ∧ n ≤ hi := decide_eq_true_iff
theorem smB_len {lo hi m : Int} {l : List Int} (h : smB lo hi m l = true) : (l.length : Int) ≤ hi := by
  unfold smB at h
  rw [Bool.and_eq_true] at h
  exact (wB_iff.1 h.1).2
theorem low_nil (m : Int) : lowB m [] = true := decide_eq_true (fun x hx => by cases hx)
theorem low_take {m : Int} {l : List Int} {k : Nat} (hk : k < l.length) (h : lowB m (l.take k) = true) (hx : wB 0 m (l.getD k 0) = true) : lowB m (l.take (k + 1)) = true := by
  unfold lowB at h ⊢
  rw [decide_eq_true_eq] at h ⊢
  intro x hx'
  rw [List.take_succ_eq_append_getElem hk, List.mem_append] at hx'
  rcases hx' with hx' | hx'
  · exact h x hx'
  · have e : x = l[k] := by simpa using hx'
    rw [e]
    rw [List.getD_eq_getElem?_getD, List.getElem?_eq_getElem hk] at hx
    exact wB_iff.1 hx
theorem low_bad {m : Int} {l : List Int} {k : Nat} (hk : k < l.length) (hx : wB 0 m (l.getD k 0) = false) : lowB m l = false := by
  unfold lowB
  rw [decide_eq_false_iff_not]
  intro h
  have h1 := h l[k] (List.getElem_mem hk)
  rw [List.getD_eq_getElem?_getD, List.getElem?_eq_getElem hk] at hx
  have := wB_yes (lo := 0) (hi := m) h1.1 h1.2
  rw [Option.getD_some, this] at hx
  cases hx
set_option maxHeartbeats 4000000 in
set_option maxRecDepth 100000 in
theorem within_c (n lo hi : Int) (w : World) : Calls Try.prog 49 #[.int .i64 n, .int .i64 lo, .int .i64 hi] w fun e w' => e = .returned (.bool (wB lo hi n)) ∧ w = w' := by
  by_cases h0 : lo ≤ n
  · have t0 : decide (lo ≤ n) = true := decide_eq_true h0
    by_cases h1 : n ≤ hi
    · have t1 : decide (n ≤ hi) = true := decide_eq_true h1
      rw [wB_yes h0 h1]; clear h0 h1
      go_enter Try.func49, Try.ntmps49
      go_wp2
      go_ret
      exact ⟨rfl, rfl⟩
    · have t1 : decide (n ≤ hi) = false := decide_eq_false h1
      rw [wB_no (fun a => h1 a.2)]; clear h0 h1
      go_enter Try.func49, Try.ntmps49
      go_wp2
      go_ret
      exact ⟨rfl, rfl⟩
  · have t0 : decide (lo ≤ n) = false := decide_eq_false h0
    rw [wB_no (fun a => h0 a.1)]; clear h0
    go_enter Try.func49, Try.ntmps49
    go_wp2
    go_ret
    exact ⟨rfl, rfl⟩
set_option maxHeartbeats 4000000 in
set_option maxRecDepth 100000 in
theorem span_c (a n : Int) (w : World) : Calls Try.prog 50 #[.int .i64 a, .int .i64 n] w fun e w' => e = .returned (.bool (spB a n)) ∧ w = w' := by
  by_cases h0 : wB 0 65535 a = true
  · have hb := wB_iff.1 h0
    have b0 := hb.1; have b1 := hb.2
    by_cases h1 : n ≤ 65536 - a
    · have t1 : decide (n ≤ 65536 - a) = true := decide_eq_true h1
      have hr : Aside0 (spB a n = true) := ⟨decide_eq_true ⟨b0, b1, by omega⟩⟩
      rw [hr.out]; clear h1 hb
      go_enter Try.func50, Try.ntmps50
      go_wp2_with (go_at_call 49; refine (within_c _ _ _ _).mono ?_; rintro e w' ⟨rfl, rfl⟩)
      go_ret
      exact ⟨rfl, rfl⟩
    · have t1 : decide (n ≤ 65536 - a) = false := decide_eq_false h1
      have hr : Aside0 (spB a n = false) := ⟨decide_eq_false (fun a => by omega)⟩
      rw [hr.out]; clear h1 hb
      go_enter Try.func50, Try.ntmps50
      go_wp2_with (go_at_call 49; refine (within_c _ _ _ _).mono ?_; rintro e w' ⟨rfl, rfl⟩)
      go_ret
      exact ⟨rfl, rfl⟩
  · have t0 : wB 0 65535 a = false := by simpa using h0
    have hr : Aside0 (spB a n = false) := ⟨decide_eq_false (fun a => h0 (wB_iff.2 ⟨a.1, a.2.1⟩))⟩
    rw [hr.out]; clear h0
    go_enter Try.func50, Try.ntmps50
    go_wp2_with (go_at_call 49; refine (within_c _ _ _ _).mono ?_; rintro e w' ⟨rfl, rfl⟩)
    go_ret
    exact ⟨rfl, rfl⟩
set_option maxHeartbeats 4000000 in
set_option maxRecDepth 100000 in
theorem all_c (A : Option Addr) (c : Nat) (l : List Int) (m : Int) (w : World) (hV : Kd.C (Kd.int .i64) w A l.length l) : Calls Try.prog 52 #[.slice A l.length c, .int .i64 m] w fun e w' => e = .returned (.bool (lowB m l)) ∧ w = w' := by
  have hmx := hV.2.1
  have HV := Aside0.mk hV
  clear hV
  go_enter Try.func52, Try.ntmps52
  go_wp2_with fail
  go_loop [9] (fun i => ∃ k : Nat, k ≤ l.length ∧ i = .int .i64 k ∧ Aside0 (lowB m (l.take k) = true)) (fun i => l.length - (intOf i).toNat)
  case atStart => exact ⟨0, by omega, rfl, ⟨by rw [List.take_zero]; exact low_nil _⟩⟩
  case round =>
    obtain ⟨k, hk, rfl, HL⟩ := hrel
    by_cases hlt : k < l.length
    · have t1 : decide (k < l.length) = true := decide_eq_true hlt
      have t2 : decide ((k : Int) < (l.length : Int)) = true := decide_eq_true (by omega)
      obtain ⟨ad, rfl, hc0⟩ := C_cell HV.out (by omega)
      have hc := hc0 k hlt
      clear hc0
      obtain ⟨x, hx⟩ : ∃ x, l.getD k 0 = x := ⟨_, rfl⟩
      rw [hx] at hc
      have HX := Aside0.mk hx
      clear hx
      have hkl := hlt
      clear hlt
      by_cases hb : wB 0 m x = true
      · have HB := Aside0.mk hb
        skip
        go_wp2_with (go_at_call 49; refine (within_c _ _ _ _).mono ?_; rintro e w' ⟨rfl, rfl⟩)
        go_round
        case rel => exact ⟨k + 1, by omega, by go_num, ⟨low_take hkl HL.out (by rw [HX.out]; exact HB.out)⟩⟩
        case measure => simp [intOf]; omega
      · have hb' : wB 0 m x = false := by simpa using hb
        have HN : Aside0 (lowB m l = false) := ⟨low_bad hkl (by rw [HX.out]; exact hb')⟩
        clear hb
        go_wp2_with (go_at_call 49; refine (within_c _ _ _ _).mono ?_; rintro e w' ⟨rfl, rfl⟩)
        go_ret
        exact ⟨by rw [HN.out]; rfl, rfl⟩
    · obtain rfl : k = l.length := by omega
      have t1 : decide (l.length < l.length) = false := decide_eq_false (by omega)
      have t2 : decide ((l.length : Int) < (l.length : Int)) = false := decide_eq_false (by omega)
      have hl := HL.out
      rw [List.take_of_length_le (Nat.le_refl _)] at hl
      have HL2 := Aside0.mk hl
      clear hl hlt
      go_wp2_with fail
      go_ret
      exact ⟨by rw [HL2.out]; rfl, rfl⟩
set_option maxHeartbeats 4000000 in
set_option maxRecDepth 100000 in
theorem some_c (A : Option Addr) (c : Nat) (l : List Int) (lo hi m : Int) (w : World) (hV : Kd.C (Kd.int .i64) w A l.length l) : Calls Try.prog 51 #[.slice A l.length c, .int .i64 lo, .int .i64 hi, .int .i64 m] w fun e w' => e = .returned (.bool (smB lo hi m l)) ∧ w = w' := by
  have HV := Aside0.mk hV
  clear hV
  unfold smB
  by_cases h0 : wB lo hi l.length = true
  · rw [h0, Bool.true_and]
    go_enter Try.func51, Try.ntmps51
    go_wp2_with (first | (go_at_call 49; refine (within_c _ _ _ _).mono ?_; rintro e w' ⟨rfl, rfl⟩) | (go_at_call 52; refine (all_c A c l m _ HV.out).mono ?_; rintro e w' ⟨rfl, rfl⟩))
    go_ret
    exact ⟨rfl, rfl⟩
  · have t0 : wB lo hi l.length = false := by simpa using h0
    rw [t0, Bool.false_and]; clear h0
    go_enter Try.func51, Try.ntmps51
    go_wp2_with (go_at_call 49; refine (within_c _ _ _ _).mono ?_; rintro e w' ⟨rfl, rfl⟩)
    go_ret
    exact ⟨rfl, rfl⟩
def chkB (f a c : Int) (v : List Int) (t n o : Int) : Bool :=
  if f = 1 ∨ f = 2 then t == 0 && n == 0 && o == 0 && (v.length : Int) == 0 && wB 1 2000 c && spB a c
  else if f = 3 ∨ f = 4 then t == 0 && n == 0 && o == 0 && (v.length : Int) == 0 && wB 1 125 c && spB a c
  else if f = 5 then t == 0 && n == 0 && o == 0 && c == 0 && smB 1 1 1 v && spB a 1
  else if f = 6 then t == 0 && n == 0 && o == 0 && c == 0 && smB 1 1 65535 v && spB a 1
  else if f = 15 then t == 0 && n == 0 && o == 0 && c == v.length && smB 1 1968 1 v && spB a v.length
  else if f = 16 then t == 0 && n == 0 && o == 0 && c == v.length && smB 1 123 65535 v && spB a v.length
  else if f = 22 then (v.length : Int) == 0 && t == 0 && c == 0 && spB a 1 && wB 0 65535 n && wB 0 65535 o
  else if f = 23 then n == 0 && o == 0 && wB 1 125 c && spB a c && smB 1 121 65535 v && spB t v.length
  else false
theorem low_two (n o : Int) : lowB 65535 [n, o] = (wB 0 65535 n && wB 0 65535 o) := by
  unfold lowB wB
  rw [Bool.eq_iff_iff, Bool.and_eq_true, decide_eq_true_eq, decide_eq_true_eq, decide_eq_true_eq]
  constructor
  · intro h; exact ⟨h n (by simp), h o (by simp)⟩
  · intro h x hx
    rcases List.mem_cons.1 hx with e | hx
    · rw [e]; exact h.1
    · have e : x = o := by simpa using hx
      rw [e]; exact h.2
end Go.Proofs.Ytocicifgglkaeaa.Chk
end

section
namespace Go.Proofs.Ytocicifgglkaeaa.Chk
open Go.RowKit Go.Proofs.YtocicifgglkaeaaW.PrintWords Go.Proofs.YtocicifgglkaeaaW.PrintLast Go.Proofs.YtocicifgglkaeaaW.PrintMore Go.Proofs.Ytocicifgglkaeaa.Core Go.Proofs.Ytocicifgglkaeaa.Wk
set_option linter.unusedVariables false
set_option linter.unusedSimpArgs false
set_option maxHeartbeats 4000000 in
set_option maxRecDepth 100000 in
theorem chk_1 (a c : Int) (A : Option Addr) (cc : Nat) (v : List Int) (t n o : Int) (w : World) (hV : Kd.C (Kd.int .i64) w A v.length v) : Calls Try.prog 29 #[.agg #[.int .i64 1, .int .i64 a, .int .i64 c, .slice A v.length cc, .int .i64 t, .int .i64 n, .int .i64 o]] w fun e w' => e = .returned (.int .i64 (if chkB 1 a c v t n o then 0 else 1)) ∧ Below w.heap.size w w' := by
  have HV := Aside0.mk hV; clear hV
  by_cases hz0 : (t == 0) = true
  · have z0 : (t == 0) = true := hz0; clear hz0
    by_cases hz1 : (n == 0) = true
    · have z1 : (n == 0) = true := hz1; clear hz1
      by_cases hz2 : (o == 0) = true
      · have z2 : (o == 0) = true := hz2; clear hz2
        by_cases hz3 : ((v.length : Int) == 0) = true
        · have z3 : ((v.length : Int) == 0) = true := hz3; clear hz3
          by_cases hz4 : wB 1 2000 c = true
          · have z4 : wB 1 2000 c = true := hz4; clear hz4
            by_cases hz5 : spB a c = true
            · have z5 : spB a c = true := hz5; clear hz5
              have HR : Aside0 (chkB 1 a c v t n o = true) := ⟨by simp [chkB, z0, z1, z2, z3, z4, z5]⟩
              rw [HR.out]
              go_enter Try.func29, Try.ntmps29
              go_wp2_with (first | (go_at_call 49; refine (within_c _ _ _ _).mono ?_; rintro e w' ⟨rfl, rfl⟩) | (go_at_call 50; refine (span_c _ _ _).mono ?_; rintro e w' ⟨rfl, rfl⟩) | (go_at_call 51; refine (some_c A cc v _ _ _ _ ?hv).mono ?_; (case hv => (with_reducible repeat (first | refine Kd.C_alloc ?_ _ | refine Kd.C_drewN ?_ _ | refine Kd.C_drew ?_)); exact HV.out); rintro e w' ⟨rfl, rfl⟩) | (go_at_call 52; refine (all_c _ _ [n, o] _ _ ?hv).mono ?_; (case hv => exact row_C (xs := [n, o]) (new_blk (by simp)) (by simp)); rintro e w' ⟨rfl, rfl⟩))
              go_ret
              exact ⟨rfl, by repeat (first | exact Below.refl _ _ | apply below_alloc)⟩
            · have z5 : spB a c = false := by simpa using hz5
              clear hz5
              have HR : Aside0 (chkB 1 a c v t n o = false) := ⟨by simp [chkB, z0, z1, z2, z3, z4, z5]⟩
              rw [HR.out]
              go_enter Try.func29, Try.ntmps29
              go_wp2_with (first | (go_at_call 49; refine (within_c _ _ _ _).mono ?_; rintro e w' ⟨rfl, rfl⟩) | (go_at_call 50; refine (span_c _ _ _).mono ?_; rintro e w' ⟨rfl, rfl⟩) | (go_at_call 51; refine (some_c A cc v _ _ _ _ ?hv).mono ?_; (case hv => (with_reducible repeat (first | refine Kd.C_alloc ?_ _ | refine Kd.C_drewN ?_ _ | refine Kd.C_drew ?_)); exact HV.out); rintro e w' ⟨rfl, rfl⟩) | (go_at_call 52; refine (all_c _ _ [n, o] _ _ ?hv).mono ?_; (case hv => exact row_C (xs := [n, o]) (new_blk (by simp)) (by simp)); rintro e w' ⟨rfl, rfl⟩))
              go_ret
              exact ⟨rfl, by repeat (first | exact Below.refl _ _ | apply below_alloc)⟩
          · have z4 : wB 1 2000 c = false := by simpa using hz4
            clear hz4
            have HR : Aside0 (chkB 1 a c v t n o = false) := ⟨by simp [chkB, z0, z1, z2, z3, z4]⟩
            rw [HR.out]
            go_enter Try.func29, Try.ntmps29
            go_wp2_with (first | (go_at_call 49; refine (within_c _ _ _ _).mono ?_; rintro e w' ⟨rfl, rfl⟩) | (go_at_call 50; refine (span_c _ _ _).mono ?_; rintro e w' ⟨rfl, rfl⟩) | (go_at_call 51; refine (some_c A cc v _ _ _ _ ?hv).mono ?_; (case hv => (with_reducible repeat (first | refine Kd.C_alloc ?_ _ | refine Kd.C_drewN ?_ _ | refine Kd.C_drew ?_)); exact HV.out); rintro e w' ⟨rfl, rfl⟩) | (go_at_call 52; refine (all_c _ _ [n, o] _ _ ?hv).mono ?_; (case hv => exact row_C (xs := [n, o]) (new_blk (by simp)) (by simp)); rintro e w' ⟨rfl, rfl⟩))
            go_ret
            exact ⟨rfl, by repeat (first | exact Below.refl _ _ | apply below_alloc)⟩
        · have z3 : ((v.length : Int) == 0) = false := by simpa using hz3
          clear hz3
          have HR : Aside0 (chkB 1 a c v t n o = false) := ⟨by simp [chkB, z0, z1, z2, z3]⟩
          rw [HR.out]
          go_enter Try.func29, Try.ntmps29
          go_wp2_with (first | (go_at_call 49; refine (within_c _ _ _ _).mono ?_; rintro e w' ⟨rfl, rfl⟩) | (go_at_call 50; refine (span_c _ _ _).mono ?_; rintro e w' ⟨rfl, rfl⟩) | (go_at_call 51; refine (some_c A cc v _ _ _ _ ?hv).mono ?_; (case hv => (with_reducible repeat (first | refine Kd.C_alloc ?_ _ | refine Kd.C_drewN ?_ _ | refine Kd.C_drew ?_)); exact HV.out); rintro e w' ⟨rfl, rfl⟩) | (go_at_call 52; refine (all_c _ _ [n, o] _ _ ?hv).mono ?_; (case hv => exact row_C (xs := [n, o]) (new_blk (by simp)) (by simp)); rintro e w' ⟨rfl, rfl⟩))
          go_ret
          exact ⟨rfl, by repeat (first | exact Below.refl _ _ | apply below_alloc)⟩
      · have z2 : (o == 0) = false := by simpa using hz2
        clear hz2
        have HR : Aside0 (chkB 1 a c v t n o = false) := ⟨by simp [chkB, z0, z1, z2]⟩
        rw [HR.out]
        go_enter Try.func29, Try.ntmps29
        go_wp2_with (first | (go_at_call 49; refine (within_c _ _ _ _).mono ?_; rintro e w' ⟨rfl, rfl⟩) | (go_at_call 50; refine (span_c _ _ _).mono ?_; rintro e w' ⟨rfl, rfl⟩) | (go_at_call 51; refine (some_c A cc v _ _ _ _ ?hv).mono ?_; (case hv => (with_reducible repeat (first | refine Kd.C_alloc ?_ _ | refine Kd.C_drewN ?_ _ | refine Kd.C_drew ?_)); exact HV.out); rintro e w' ⟨rfl, rfl⟩) | (go_at_call 52; refine (all_c _ _ [n, o] _ _ ?hv).mono ?_; (case hv => exact row_C (xs := [n, o]) (new_blk (by simp)) (by simp)); rintro e w' ⟨rfl, rfl⟩))
        go_ret
        exact ⟨rfl, by repeat (first | exact Below.refl _ _ | apply below_alloc)⟩
    · have z1 : (n == 0) = false := by simpa using hz1
      clear hz1
      have HR : Aside0 (chkB 1 a c v t n o = false) := ⟨by simp [chkB, z0, z1]⟩
      rw [HR.out]
      go_enter Try.func29, Try.ntmps29
      go_wp2_with (first | (go_at_call 49; refine (within_c _ _ _ _).mono ?_; rintro e w' ⟨rfl, rfl⟩) | (go_at_call 50; refine (span_c _ _ _).mono ?_; rintro e w' ⟨rfl, rfl⟩) | (go_at_call 51; refine (some_c A cc v _ _ _ _ ?hv).mono ?_; (case hv => (with_reducible repeat (first | refine Kd.C_alloc ?_ _ | refine Kd.C_drewN ?_ _ | refine Kd.C_drew ?_)); exact HV.out); rintro e w' ⟨rfl, rfl⟩) | (go_at_call 52; refine (all_c _ _ [n, o] _ _ ?hv).mono ?_; (case hv => exact row_C (xs := [n, o]) (new_blk (by simp)) (by simp)); rintro e w' ⟨rfl, rfl⟩))
      go_ret
      exact ⟨rfl, by repeat (first | exact Below.refl _ _ | apply below_alloc)⟩
  · have z0 : (t == 0) = false := by simpa using hz0
    clear hz0
    have HR : Aside0 (chkB 1 a c v t n o = false) := ⟨by simp [chkB, z0]⟩
    rw [HR.out]
    go_enter Try.func29, Try.ntmps29
    go_wp2_with (first | (go_at_call 49; refine (within_c _ _ _ _).mono ?_; rintro e w' ⟨rfl, rfl⟩) | (go_at_call 50; refine (span_c _ _ _).mono ?_; rintro e w' ⟨rfl, rfl⟩) | (go_at_call 51; refine (some_c A cc v _ _ _ _ ?hv).mono ?_; (case hv => (with_reducible repeat (first | refine Kd.C_alloc ?_ _ | refine Kd.C_drewN ?_ _ | refine Kd.C_drew ?_)); exact HV.out); rintro e w' ⟨rfl, rfl⟩) | (go_at_call 52; refine (all_c _ _ [n, o] _ _ ?hv).mono ?_; (case hv => exact row_C (xs := [n, o]) (new_blk (by simp)) (by simp)); rintro e w' ⟨rfl, rfl⟩))
    go_ret
    exact ⟨rfl, by repeat (first | exact Below.refl _ _ | apply below_alloc)⟩
set_option maxHeartbeats 4000000 in
set_option maxRecDepth 100000 in
theorem chk_2 (a c : Int) (A : Option Addr) (cc : Nat) (v : List Int) (t n o : Int) (w : World) (hV : Kd.C (Kd.int .i64) w A v.length v) : Calls Try.prog 29 #[.agg #[.int .i64 2, .int .i64 a, .int .i64 c, .slice A v.length cc, .int .i64 t, .int .i64 n, .int .i64 o]] w fun e w' => e = .returned (.int .i64 (if chkB 2 a c v t n o then 0 else 1)) ∧ Below w.heap.size w w' := by
  have HV := Aside0.mk hV; clear hV
  by_cases hz0 : (t == 0) = true
  · have z0 : (t == 0) = true := hz0; clear hz0
    by_cases hz1 : (n == 0) = true
    · have z1 : (n == 0) = true := hz1; clear hz1
      by_cases hz2 : (o == 0) = true
      · have z2 : (o == 0) = true := hz2; clear hz2
        by_cases hz3 : ((v.length : Int) == 0) = true
        · have z3 : ((v.length : Int) == 0) = true := hz3; clear hz3
          by_cases hz4 : wB 1 2000 c = true
          · have z4 : wB 1 2000 c = true := hz4; clear hz4
            by_cases hz5 : spB a c = true
            · have z5 : spB a c = true := hz5; clear hz5
              have HR : Aside0 (chkB 2 a c v t n o = true) := ⟨by simp [chkB, z0, z1, z2, z3, z4, z5]⟩
              rw [HR.out]
              go_enter Try.func29, Try.ntmps29
              go_wp2_with (first | (go_at_call 49; refine (within_c _ _ _ _).mono ?_; rintro e w' ⟨rfl, rfl⟩) | (go_at_call 50; refine (span_c _ _ _).mono ?_; rintro e w' ⟨rfl, rfl⟩) | (go_at_call 51; refine (some_c A cc v _ _ _ _ ?hv).mono ?_; (case hv => (with_reducible repeat (first | refine Kd.C_alloc ?_ _ | refine Kd.C_drewN ?_ _ | refine Kd.C_drew ?_)); exact HV.out); rintro e w' ⟨rfl, rfl⟩) | (go_at_call 52; refine (all_c _ _ [n, o] _ _ ?hv).mono ?_; (case hv => exact row_C (xs := [n, o]) (new_blk (by simp)) (by simp)); rintro e w' ⟨rfl, rfl⟩))
              go_ret
              exact ⟨rfl, by repeat (first | exact Below.refl _ _ | apply below_alloc)⟩
            · have z5 : spB a c = false := by simpa using hz5
              clear hz5
              have HR : Aside0 (chkB 2 a c v t n o = false) := ⟨by simp [chkB, z0, z1, z2, z3, z4, z5]⟩
              rw [HR.out]
              go_enter Try.func29, Try.ntmps29
              go_wp2_with (first | (go_at_call 49; refine (within_c _ _ _ _).mono ?_; rintro e w' ⟨rfl, rfl⟩) | (go_at_call 50; refine (span_c _ _ _).mono ?_; rintro e w' ⟨rfl, rfl⟩) | (go_at_call 51; refine (some_c A cc v _ _ _ _ ?hv).mono ?_; (case hv => (with_reducible repeat (first | refine Kd.C_alloc ?_ _ | refine Kd.C_drewN ?_ _ | refine Kd.C_drew ?_)); exact HV.out); rintro e w' ⟨rfl, rfl⟩) | (go_at_call 52; refine (all_c _ _ [n, o] _ _ ?hv).mono ?_; (case hv => exact row_C (xs := [n, o]) (new_blk (by simp)) (by simp)); rintro e w' ⟨rfl, rfl⟩))
              go_ret
              exact ⟨rfl, by repeat (first | exact Below.refl _ _ | apply below_alloc)⟩
          · have z4 : wB 1 2000 c = false := by simpa using hz4
            clear hz4
            have HR : Aside0 (chkB 2 a c v t n o = false) := ⟨by simp [chkB, z0, z1, z2, z3, z4]⟩
            rw [HR.out]
            go_enter Try.func29, Try.ntmps29
            go_wp2_with (first | (go_at_call 49; refine (within_c _ _ _ _).mono ?_; rintro e w' ⟨rfl, rfl⟩) | (go_at_call 50; refine (span_c _ _ _).mono ?_; rintro e w' ⟨rfl, rfl⟩) | (go_at_call 51; refine (some_c A cc v _ _ _ _ ?hv).mono ?_; (case hv => (with_reducible repeat (first | refine Kd.C_alloc ?_ _ | refine Kd.C_drewN ?_ _ | refine Kd.C_drew ?_)); exact HV.out); rintro e w' ⟨rfl, rfl⟩) | (go_at_call 52; refine (all_c _ _ [n, o] _ _ ?hv).mono ?_; (case hv => exact row_C (xs := [n, o]) (new_blk (by simp)) (by simp)); rintro e w' ⟨rfl, rfl⟩))
            go_ret
            exact ⟨rfl, by repeat (first | exact Below.refl _ _ | apply below_alloc)⟩
        · have z3 : ((v.length : Int) == 0) = false := by simpa using hz3
          clear hz3
          have HR : Aside0 (chkB 2 a c v t n o = false) := ⟨by simp [chkB, z0, z1, z2, z3]⟩
          rw [HR.out]
          go_enter Try.func29, Try.ntmps29
          go_wp2_with (first | (go_at_call 49; refine (within_c _ _ _ _).mono ?_; rintro e w' ⟨rfl, rfl⟩) | (go_at_call 50; refine (span_c _ _ _).mono ?_; rintro e w' ⟨rfl, rfl⟩) | (go_at_call 51; refine (some_c A cc v _ _ _ _ ?hv).mono ?_; (case hv => (with_reducible repeat (first | refine Kd.C_alloc ?_ _ | refine Kd.C_drewN ?_ _ | refine Kd.C_drew ?_)); exact HV.out); rintro e w' ⟨rfl, rfl⟩) | (go_at_call 52; refine (all_c _ _ [n, o] _ _ ?hv).mono ?_; (case hv => exact row_C (xs := [n, o]) (new_blk (by simp)) (by simp)); rintro e w' ⟨rfl, rfl⟩))
          go_ret
          exact ⟨rfl, by repeat (first | exact Below.refl _ _ | apply below_alloc)⟩
      · have z2 : (o == 0) = false := by simpa using hz2
        clear hz2
        have HR : Aside0 (chkB 2 a c v t n o = false) := ⟨by simp [chkB, z0, z1, z2]⟩
        rw [HR.out]
        go_enter Try.func29, Try.ntmps29
        go_wp2_with (first | (go_at_call 49; refine (within_c _ _ _ _).mono ?_; rintro e w' ⟨rfl, rfl⟩) | (go_at_call 50; refine (span_c _ _ _).mono ?_; rintro e w' ⟨rfl, rfl⟩) | (go_at_call 51; refine (some_c A cc v _ _ _ _ ?hv).mono ?_; (case hv => (with_reducible repeat (first | refine Kd.C_alloc ?_ _ | refine Kd.C_drewN ?_ _ | refine Kd.C_drew ?_)); exact HV.out); rintro e w' ⟨rfl, rfl⟩) | (go_at_call 52; refine (all_c _ _ [n, o] _ _ ?hv).mono ?_; (case hv => exact row_C (xs := [n, o]) (new_blk (by simp)) (by simp)); rintro e w' ⟨rfl, rfl⟩))
        go_ret
        exact ⟨rfl, by repeat (first | exact Below.refl _ _ | apply below_alloc)⟩
    · have z1 : (n == 0) = false := by simpa using hz1
      clear hz1
      have HR : Aside0 (chkB 2 a c v t n o = false) := ⟨by simp [chkB, z0, z1]⟩
      rw [HR.out]
      go_enter Try.func29, Try.ntmps29
      go_wp2_with (first | (go_at_call 49; refine (within_c _ _ _ _).mono ?_; rintro e w' ⟨rfl, rfl⟩) | (go_at_call 50; refine (span_c _ _ _).mono ?_; rintro e w' ⟨rfl, rfl⟩) | (go_at_call 51; refine (some_c A cc v _ _ _ _ ?hv).mono ?_; (case hv => (with_reducible repeat (first | refine Kd.C_alloc ?_ _ | refine Kd.C_drewN ?_ _ | refine Kd.C_drew ?_)); exact HV.out); rintro e w' ⟨rfl, rfl⟩) | (go_at_call 52; refine (all_c _ _ [n, o] _ _ ?hv).mono ?_; (case hv => exact row_C (xs := [n, o]) (new_blk (by simp)) (by simp)); rintro e w' ⟨rfl, rfl⟩))
      go_ret
      exact ⟨rfl, by repeat (first | exact Below.refl _ _ | apply below_alloc)⟩
  · have z0 : (t == 0) = false := by simpa using hz0
    clear hz0
    have HR : Aside0 (chkB 2 a c v t n o = false) := ⟨by simp [chkB, z0]⟩
    rw [HR.out]
    go_enter Try.func29, Try.ntmps29
    go_wp2_with (first | (go_at_call 49; refine (within_c _ _ _ _).mono ?_; rintro e w' ⟨rfl, rfl⟩) | (go_at_call 50; refine (span_c _ _ _).mono ?_; rintro e w' ⟨rfl, rfl⟩) | (go_at_call 51; refine (some_c A cc v _ _ _ _ ?hv).mono ?_; (case hv => (with_reducible repeat (first | refine Kd.C_alloc ?_ _ | refine Kd.C_drewN ?_ _ | refine Kd.C_drew ?_)); exact HV.out); rintro e w' ⟨rfl, rfl⟩) | (go_at_call 52; refine (all_c _ _ [n, o] _ _ ?hv).mono ?_; (case hv => exact row_C (xs := [n, o]) (new_blk (by simp)) (by simp)); rintro e w' ⟨rfl, rfl⟩))
    go_ret
    exact ⟨rfl, by repeat (first | exact Below.refl _ _ | apply below_alloc)⟩
end Go.Proofs.Ytocicifgglkaeaa.Chk
end

section
namespace Go.Proofs.Ytocicifgglkaeaa.Chk
open Go.RowKit Go.Proofs.YtocicifgglkaeaaW.PrintWords Go.Proofs.YtocicifgglkaeaaW.PrintLast Go.Proofs.YtocicifgglkaeaaW.PrintMore Go.Proofs.Ytocicifgglkaeaa.Core Go.Proofs.Ytocicifgglkaeaa.Wk
set_option linter.unusedVariables false
set_option linter.unusedSimpArgs false
set_option maxHeartbeats 4000000 in
set_option maxRecDepth 100000 in
theorem chk_3 (a c : Int) (A : Option Addr) (cc : Nat) (v : List Int) (t n o : Int) (w : World) (hV : Kd.C (Kd.int .i64) w A v.length v) : Calls Try.prog 29 #[.agg #[.int .i64 3, .int .i64 a, .int .i64 c, .slice A v.length cc, .int .i64 t, .int .i64 n, .int .i64 o]] w fun e w' => e = .returned (.int .i64 (if chkB 3 a c v t n o then 0 else 1)) ∧ Below w.heap.size w w' := by
  have HV := Aside0.mk hV; clear hV
  by_cases hz0 : (t == 0) = true
  · have z0 : (t == 0) = true := hz0; clear hz0
    by_cases hz1 : (n == 0) = true
    · have z1 : (n == 0) = true := hz1; clear hz1
      by_cases hz2 : (o == 0) = true
      · have z2 : (o == 0) = true := hz2; clear hz2
        by_cases hz3 : ((v.length : Int) == 0) = true
        · have z3 : ((v.length : Int) == 0) = true := hz3; clear hz3
          by_cases hz4 : wB 1 125 c = true
          · have z4 : wB 1 125 c = true := hz4; clear hz4
            by_cases hz5 : spB a c = true
            · have z5 : spB a c = true := hz5; clear hz5
              have HR : Aside0 (chkB 3 a c v t n o = true) := ⟨by simp [chkB, z0, z1, z2, z3, z4, z5]⟩
              rw [HR.out]
              go_enter Try.func29, Try.ntmps29
              go_wp2_with (first | (go_at_call 49; refine (within_c _ _ _ _).mono ?_; rintro e w' ⟨rfl, rfl⟩) | (go_at_call 50; refine (span_c _ _ _).mono ?_; rintro e w' ⟨rfl, rfl⟩) | (go_at_call 51; refine (some_c A cc v _ _ _ _ ?hv).mono ?_; (case hv => (with_reducible repeat (first | refine Kd.C_alloc ?_ _ | refine Kd.C_drewN ?_ _ | refine Kd.C_drew ?_)); exact HV.out); rintro e w' ⟨rfl, rfl⟩) | (go_at_call 52; refine (all_c _ _ [n, o] _ _ ?hv).mono ?_; (case hv => exact row_C (xs := [n, o]) (new_blk (by simp)) (by simp)); rintro e w' ⟨rfl, rfl⟩))
              go_ret
              exact ⟨rfl, by repeat (first | exact Below.refl _ _ | apply below_alloc)⟩
            · have z5 : spB a c = false := by simpa using hz5
              clear hz5
              have HR : Aside0 (chkB 3 a c v t n o = false) := ⟨by simp [chkB, z0, z1, z2, z3, z4, z5]⟩
              rw [HR.out]
              go_enter Try.func29, Try.ntmps29
              go_wp2_with (first | (go_at_call 49; refine (within_c _ _ _ _).mono ?_; rintro e w' ⟨rfl, rfl⟩) | (go_at_call 50; refine (span_c _ _ _).mono ?_; rintro e w' ⟨rfl, rfl⟩) | (go_at_call 51; refine (some_c A cc v _ _ _ _ ?hv).mono ?_; (case hv => (with_reducible repeat (first | refine Kd.C_alloc ?_ _ | refine Kd.C_drewN ?_ _ | refine Kd.C_drew ?_)); exact HV.out); rintro e w' ⟨rfl, rfl⟩) | (go_at_call 52; refine (all_c _ _ [n, o] _ _ ?hv).mono ?_; (case hv => exact row_C (xs := [n, o]) (new_blk (by simp)) (by simp)); rintro e w' ⟨rfl, rfl⟩))
              go_ret
              exact ⟨rfl, by repeat (first | exact Below.refl _ _ | apply below_alloc)⟩
          · have z4 : wB 1 125 c = false := by simpa using hz4
            clear hz4
            have HR : Aside0 (chkB 3 a c v t n o = false) := ⟨by simp [chkB, z0, z1, z2, z3, z4]⟩
            rw [HR.out]
            go_enter Try.func29, Try.ntmps29
            go_wp2_with (first | (go_at_call 49; refine (within_c _ _ _ _).mono ?_; rintro e w' ⟨rfl, rfl⟩) | (go_at_call 50; refine (span_c _ _ _).mono ?_; rintro e w' ⟨rfl, rfl⟩) | (go_at_call 51; refine (some_c A cc v _ _ _ _ ?hv).mono ?_; (case hv => (with_reducible repeat (first | refine Kd.C_alloc ?_ _ | refine Kd.C_drewN ?_ _ | refine Kd.C_drew ?_)); exact HV.out); rintro e w' ⟨rfl, rfl⟩) | (go_at_call 52; refine (all_c _ _ [n, o] _ _ ?hv).mono ?_; (case hv => exact row_C (xs := [n, o]) (new_blk (by simp)) (by simp)); rintro e w' ⟨rfl, rfl⟩))
            go_ret
            exact ⟨rfl, by repeat (first | exact Below.refl _ _ | apply below_alloc)⟩
        · have z3 : ((v.length : Int) == 0) = false := by simpa using hz3
          clear hz3
          have HR : Aside0 (chkB 3 a c v t n o = false) := ⟨by simp [chkB, z0, z1, z2, z3]⟩
          rw [HR.out]
          go_enter Try.func29, Try.ntmps29
          go_wp2_with (first | (go_at_call 49; refine (within_c _ _ _ _).mono ?_; rintro e w' ⟨rfl, rfl⟩) | (go_at_call 50; refine (span_c _ _ _).mono ?_; rintro e w' ⟨rfl, rfl⟩) | (go_at_call 51; refine (some_c A cc v _ _ _ _ ?hv).mono ?_; (case hv => (with_reducible repeat (first | refine Kd.C_alloc ?_ _ | refine Kd.C_drewN ?_ _ | refine Kd.C_drew ?_)); exact HV.out); rintro e w' ⟨rfl, rfl⟩) | (go_at_call 52; refine (all_c _ _ [n, o] _ _ ?hv).mono ?_; (case hv => exact row_C (xs := [n, o]) (new_blk (by simp)) (by simp)); rintro e w' ⟨rfl, rfl⟩))
          go_ret
          exact ⟨rfl, by repeat (first | exact Below.refl _ _ | apply below_alloc)⟩
      · have z2 : (o == 0) = false := by simpa using hz2
        clear hz2
        have HR : Aside0 (chkB 3 a c v t n o = false) := ⟨by simp [chkB, z0, z1, z2]⟩
        rw [HR.out]
        go_enter Try.func29, Try.ntmps29
        go_wp2_with (first | (go_at_call 49; refine (within_c _ _ _ _).mono ?_; rintro e w' ⟨rfl, rfl⟩) | (go_at_call 50; refine (span_c _ _ _).mono ?_; rintro e w' ⟨rfl, rfl⟩) | (go_at_call 51; refine (some_c A cc v _ _ _ _ ?hv).mono ?_; (case hv => (with_reducible repeat (first | refine Kd.C_alloc ?_ _ | refine Kd.C_drewN ?_ _ | refine Kd.C_drew ?_)); exact HV.out); rintro e w' ⟨rfl, rfl⟩) | (go_at_call 52; refine (all_c _ _ [n, o] _ _ ?hv).mono ?_; (case hv => exact row_C (xs := [n, o]) (new_blk (by simp)) (by simp)); rintro e w' ⟨rfl, rfl⟩))
        go_ret
        exact ⟨rfl, by repeat (first | exact Below.refl _ _ | apply below_alloc)⟩
    · have z1 : (n == 0) = false := by simpa using hz1
      clear hz1
      have HR : Aside0 (chkB 3 a c v t n o = false) := ⟨by simp [chkB, z0, z1]⟩
      rw [HR.out]
      go_enter Try.func29, Try.ntmps29
      go_wp2_with (first | (go_at_call 49; refine (within_c _ _ _ _).mono ?_; rintro e w' ⟨rfl, rfl⟩) | (go_at_call 50; refine (span_c _ _ _).mono ?_; rintro e w' ⟨rfl, rfl⟩) | (go_at_call 51; refine (some_c A cc v _ _ _ _ ?hv).mono ?_; (case hv => (with_reducible repeat (first | refine Kd.C_alloc ?_ _ | refine Kd.C_drewN ?_ _ | refine Kd.C_drew ?_)); exact HV.out); rintro e w' ⟨rfl, rfl⟩) | (go_at_call 52; refine (all_c _ _ [n, o] _ _ ?hv).mono ?_; (case hv => exact row_C (xs := [n, o]) (new_blk (by simp)) (by simp)); rintro e w' ⟨rfl, rfl⟩))
      go_ret
      exact ⟨rfl, by repeat (first | exact Below.refl _ _ | apply below_alloc)⟩
  · have z0 : (t == 0) = false := by simpa using hz0
    clear hz0
    have HR : Aside0 (chkB 3 a c v t n o = false) := ⟨by simp [chkB, z0]⟩
    rw [HR.out]
    go_enter Try.func29, Try.ntmps29
    go_wp2_with (first | (go_at_call 49; refine (within_c _ _ _ _).mono ?_; rintro e w' ⟨rfl, rfl⟩) | (go_at_call 50; refine (span_c _ _ _).mono ?_; rintro e w' ⟨rfl, rfl⟩) | (go_at_call 51; refine (some_c A cc v _ _ _ _ ?hv).mono ?_; (case hv => (with_reducible repeat (first | refine Kd.C_alloc ?_ _ | refine Kd.C_drewN ?_ _ | refine Kd.C_drew ?_)); exact HV.out); rintro e w' ⟨rfl, rfl⟩) | (go_at_call 52; refine (all_c _ _ [n, o] _ _ ?hv).mono ?_; (case hv => exact row_C (xs := [n, o]) (new_blk (by simp)) (by simp)); rintro e w' ⟨rfl, rfl⟩))
    go_ret
    exact ⟨rfl, by repeat (first | exact Below.refl _ _ | apply below_alloc)⟩
set_option maxHeartbeats 4000000 in
set_option maxRecDepth 100000 in
theorem chk_4 (a c : Int) (A : Option Addr) (cc : Nat) (v : List Int) (t n o : Int) (w : World) (hV : Kd.C (Kd.int .i64) w A v.length v) : Calls Try.prog 29 #[.agg #[.int .i64 4, .int .i64 a, .int .i64 c, .slice A v.length cc, .int .i64 t, .int .i64 n, .int .i64 o]] w fun e w' => e = .returned (.int .i64 (if chkB 4 a c v t n o then 0 else 1)) ∧ Below w.heap.size w w' := by
  have HV := Aside0.mk hV; clear hV
  by_cases hz0 : (t == 0) = true
  · have z0 : (t == 0) = true := hz0; clear hz0
    by_cases hz1 : (n == 0) = true
    · have z1 : (n == 0) = true := hz1; clear hz1
      by_cases hz2 : (o == 0) = true
      · have z2 : (o == 0) = true := hz2; clear hz2
        by_cases hz3 : ((v.length : Int) == 0) = true
        · have z3 : ((v.length : Int) == 0) = true := hz3; clear hz3
          by_cases hz4 : wB 1 125 c = true
          · have z4 : wB 1 125 c = true := hz4; clear hz4
            by_cases hz5 : spB a c = true
            · have z5 : spB a c = true := hz5; clear hz5
              have HR : Aside0 (chkB 4 a c v t n o = true) := ⟨by simp [chkB, z0, z1, z2, z3, z4, z5]⟩
              rw [HR.out]
              go_enter Try.func29, Try.ntmps29
              go_wp2_with (first | (go_at_call 49; refine (within_c _ _ _ _).mono ?_; rintro e w' ⟨rfl, rfl⟩) | (go_at_call 50; refine (span_c _ _ _).mono ?_; rintro e w' ⟨rfl, rfl⟩) | (go_at_call 51; refine (some_c A cc v _ _ _ _ ?hv).mono ?_; (case hv => (with_reducible repeat (first | refine Kd.C_alloc ?_ _ | refine Kd.C_drewN ?_ _ | refine Kd.C_drew ?_)); exact HV.out); rintro e w' ⟨rfl, rfl⟩) | (go_at_call 52; refine (all_c _ _ [n, o] _ _ ?hv).mono ?_; (case hv => exact row_C (xs := [n, o]) (new_blk (by simp)) (by simp)); rintro e w' ⟨rfl, rfl⟩))
              go_ret
              exact ⟨rfl, by repeat (first | exact Below.refl _ _ | apply below_alloc)⟩
            · have z5 : spB a c = false := by simpa using hz5
              clear hz5
              have HR : Aside0 (chkB 4 a c v t n o = false) := ⟨by simp [chkB, z0, z1, z2, z3, z4, z5]⟩
              rw [HR.out]
              go_enter Try.func29, Try.ntmps29
              go_wp2_with (first | (go_at_call 49; refine (within_c _ _ _ _).mono ?_; rintro e w' ⟨rfl, rfl⟩) | (go_at_call 50; refine (span_c _ _ _).mono ?_; rintro e w' ⟨rfl, rfl⟩) | (go_at_call 51; refine (some_c A cc v _ _ _ _ ?hv).mono ?_; (case hv => (with_reducible repeat (first | refine Kd.C_alloc ?_ _ | refine Kd.C_drewN ?_ _ | refine Kd.C_drew ?_)); exact HV.out); rintro e w' ⟨rfl, rfl⟩) | (go_at_call 52; refine (all_c _ _ [n, o] _ _ ?hv).mono ?_; (case hv => exact row_C (xs := [n, o]) (new_blk (by simp)) (by simp)); rintro e w' ⟨rfl, rfl⟩))
              go_ret
              exact ⟨rfl, by repeat (first | exact Below.refl _ _ | apply below_alloc)⟩
          · have z4 : wB 1 125 c = false := by simpa using hz4
            clear hz4
            have HR : Aside0 (chkB 4 a c v t n o = false) := ⟨by simp [chkB, z0, z1, z2, z3, z4]⟩
            rw [HR.out]
            go_enter Try.func29, Try.ntmps29
            go_wp2_with (first | (go_at_call 49; refine (within_c _ _ _ _).mono ?_; rintro e w' ⟨rfl, rfl⟩) | (go_at_call 50; refine (span_c _ _ _).mono ?_; rintro e w' ⟨rfl, rfl⟩) | (go_at_call 51; refine (some_c A cc v _ _ _ _ ?hv).mono ?_; (case hv => (with_reducible repeat (first | refine Kd.C_alloc ?_ _ | refine Kd.C_drewN ?_ _ | refine Kd.C_drew ?_)); exact HV.out); rintro e w' ⟨rfl, rfl⟩) | (go_at_call 52; refine (all_c _ _ [n, o] _ _ ?hv).mono ?_; (case hv => exact row_C (xs := [n, o]) (new_blk (by simp)) (by simp)); rintro e w' ⟨rfl, rfl⟩))
            go_ret
            exact ⟨rfl, by repeat (first | exact Below.refl _ _ | apply below_alloc)⟩
        · have z3 : ((v.length : Int) == 0) = false := by simpa using hz3
          clear hz3
          have HR : Aside0 (chkB 4 a c v t n o = false) := ⟨by simp [chkB, z0, z1, z2, z3]⟩
          rw [HR.out]
          go_enter Try.func29, Try.ntmps29
          go_wp2_with (first | (go_at_call 49; refine (within_c _ _ _ _).mono ?_; rintro e w' ⟨rfl, rfl⟩) | (go_at_call 50; refine (span_c _ _ _).mono ?_; rintro e w' ⟨rfl, rfl⟩) | (go_at_call 51; refine (some_c A cc v _ _ _ _ ?hv).mono ?_; (case hv => (with_reducible repeat (first | refine Kd.C_alloc ?_ _ | refine Kd.C_drewN ?_ _ | refine Kd.C_drew ?_)); exact HV.out); rintro e w' ⟨rfl, rfl⟩) | (go_at_call 52; refine (all_c _ _ [n, o] _ _ ?hv).mono ?_; (case hv => exact row_C (xs := [n, o]) (new_blk (by simp)) (by simp)); rintro e w' ⟨rfl, rfl⟩))
          go_ret
          exact ⟨rfl, by repeat (first | exact Below.refl _ _ | apply below_alloc)⟩
      · have z2 : (o == 0) = false := by simpa using hz2
        clear hz2
        have HR : Aside0 (chkB 4 a c v t n o = false) := ⟨by simp [chkB, z0, z1, z2]⟩
        rw [HR.out]
        go_enter Try.func29, Try.ntmps29
        go_wp2_with (first | (go_at_call 49; refine (within_c _ _ _ _).mono ?_; rintro e w' ⟨rfl, rfl⟩) | (go_at_call 50; refine (span_c _ _ _).mono ?_; rintro e w' ⟨rfl, rfl⟩) | (go_at_call 51; refine (some_c A cc v _ _ _ _ ?hv).mono ?_; (case hv => (with_reducible repeat (first | refine Kd.C_alloc ?_ _ | refine Kd.C_drewN ?_ _ | refine Kd.C_drew ?_)); exact HV.out); rintro e w' ⟨rfl, rfl⟩) | (go_at_call 52; refine (all_c _ _ [n, o] _ _ ?hv).mono ?_; (case hv => exact row_C (xs := [n, o]) (new_blk (by simp)) (by simp)); rintro e w' ⟨rfl, rfl⟩))
        go_ret
        exact ⟨rfl, by repeat (first | exact Below.refl _ _ | apply below_alloc)⟩
    · have z1 : (n == 0) = false := by simpa using hz1
      clear hz1
      have HR : Aside0 (chkB 4 a c v t n o = false) := ⟨by simp [chkB, z0, z1]⟩
      rw [HR.out]
      go_enter Try.func29, Try.ntmps29
      go_wp2_with (first | (go_at_call 49; refine (within_c _ _ _ _).mono ?_; rintro e w' ⟨rfl, rfl⟩) | (go_at_call 50; refine (span_c _ _ _).mono ?_; rintro e w' ⟨rfl, rfl⟩) | (go_at_call 51; refine (some_c A cc v _ _ _ _ ?hv).mono ?_; (case hv => (with_reducible repeat (first | refine Kd.C_alloc ?_ _ | refine Kd.C_drewN ?_ _ | refine Kd.C_drew ?_)); exact HV.out); rintro e w' ⟨rfl, rfl⟩) | (go_at_call 52; refine (all_c _ _ [n, o] _ _ ?hv).mono ?_; (case hv => exact row_C (xs := [n, o]) (new_blk (by simp)) (by simp)); rintro e w' ⟨rfl, rfl⟩))
      go_ret
      exact ⟨rfl, by repeat (first | exact Below.refl _ _ | apply below_alloc)⟩
  · have z0 : (t == 0) = false := by simpa using hz0
    clear hz0
    have HR : Aside0 (chkB 4 a c v t n o = false) := ⟨by simp [chkB, z0]⟩
    rw [HR.out]
    go_enter Try.func29, Try.ntmps29
    go_wp2_with (first | (go_at_call 49; refine (within_c _ _ _ _).mono ?_; rintro e w' ⟨rfl, rfl⟩) | (go_at_call 50; refine (span_c _ _ _).mono ?_; rintro e w' ⟨rfl, rfl⟩) | (go_at_call 51; refine (some_c A cc v _ _ _ _ ?hv).mono ?_; (case hv => (with_reducible repeat (first | refine Kd.C_alloc ?_ _ | refine Kd.C_drewN ?_ _ | refine Kd.C_drew ?_)); exact HV.out); rintro e w' ⟨rfl, rfl⟩) | (go_at_call 52; refine (all_c _ _ [n, o] _ _ ?hv).mono ?_; (case hv => exact row_C (xs := [n, o]) (new_blk (by simp)) (by simp)); rintro e w' ⟨rfl, rfl⟩))
    go_ret
    exact ⟨rfl, by repeat (first | exact Below.refl _ _ | apply below_alloc)⟩
end Go.Proofs.Ytocicifgglkaeaa.Chk
end

section
namespace Go.Proofs.Ytocicifgglkaeaa.Chk
open Go.RowKit Go.Proofs.YtocicifgglkaeaaW.PrintWords Go.Proofs.YtocicifgglkaeaaW.PrintLast Go.Proofs.YtocicifgglkaeaaW.PrintMore Go.Proofs.Ytocicifgglkaeaa.Core Go.Proofs.Ytocicifgglkaeaa.Wk
set_option linter.unusedVariables false
set_option linter.unusedSimpArgs false
set_option maxHeartbeats 4000000 in
set_option maxRecDepth 100000 in
theorem chk_5 (a c : Int) (A : Option Addr) (cc : Nat) (v : List Int) (t n o : Int) (w : World) (hV : Kd.C (Kd.int .i64) w A v.length v) : Calls Try.prog 29 #[.agg #[.int .i64 5, .int .i64 a, .int .i64 c, .slice A v.length cc, .int .i64 t, .int .i64 n, .int .i64 o]] w fun e w' => e = .returned (.int .i64 (if chkB 5 a c v t n o then 0 else 1)) ∧ Below w.heap.size w w' := by
  have HV := Aside0.mk hV; clear hV
  by_cases hz0 : (t == 0) = true
  · have z0 : (t == 0) = true := hz0; clear hz0
    by_cases hz1 : (n == 0) = true
    · have z1 : (n == 0) = true := hz1; clear hz1
      by_cases hz2 : (o == 0) = true
      · have z2 : (o == 0) = true := hz2; clear hz2
        by_cases hz3 : (c == 0) = true
        · have z3 : (c == 0) = true := hz3; clear hz3
          by_cases hz4 : smB 1 1 1 v = true
          · have z4 : smB 1 1 1 v = true := hz4; clear hz4; have pz4 := smB_len z4
            by_cases hz5 : spB a 1 = true
            · have z5 : spB a 1 = true := hz5; clear hz5
              have HR : Aside0 (chkB 5 a c v t n o = true) := ⟨by simp [chkB, z0, z1, z2, z3, z4, z5]⟩
              rw [HR.out]
              go_enter Try.func29, Try.ntmps29
              go_wp2_with (first | (go_at_call 49; refine (within_c _ _ _ _).mono ?_; rintro e w' ⟨rfl, rfl⟩) | (go_at_call 50; refine (span_c _ _ _).mono ?_; rintro e w' ⟨rfl, rfl⟩) | (go_at_call 51; refine (some_c A cc v _ _ _ _ ?hv).mono ?_; (case hv => (with_reducible repeat (first | refine Kd.C_alloc ?_ _ | refine Kd.C_drewN ?_ _ | refine Kd.C_drew ?_)); exact HV.out); rintro e w' ⟨rfl, rfl⟩) | (go_at_call 52; refine (all_c _ _ [n, o] _ _ ?hv).mono ?_; (case hv => exact row_C (xs := [n, o]) (new_blk (by simp)) (by simp)); rintro e w' ⟨rfl, rfl⟩))
              go_ret
              exact ⟨rfl, by repeat (first | exact Below.refl _ _ | apply below_alloc)⟩
            · have z5 : spB a 1 = false := by simpa using hz5
              clear hz5
              have HR : Aside0 (chkB 5 a c v t n o = false) := ⟨by simp [chkB, z0, z1, z2, z3, z4, z5]⟩
              rw [HR.out]
              go_enter Try.func29, Try.ntmps29
              go_wp2_with (first | (go_at_call 49; refine (within_c _ _ _ _).mono ?_; rintro e w' ⟨rfl, rfl⟩) | (go_at_call 50; refine (span_c _ _ _).mono ?_; rintro e w' ⟨rfl, rfl⟩) | (go_at_call 51; refine (some_c A cc v _ _ _ _ ?hv).mono ?_; (case hv => (with_reducible repeat (first | refine Kd.C_alloc ?_ _ | refine Kd.C_drewN ?_ _ | refine Kd.C_drew ?_)); exact HV.out); rintro e w' ⟨rfl, rfl⟩) | (go_at_call 52; refine (all_c _ _ [n, o] _ _ ?hv).mono ?_; (case hv => exact row_C (xs := [n, o]) (new_blk (by simp)) (by simp)); rintro e w' ⟨rfl, rfl⟩))
              go_ret
              exact ⟨rfl, by repeat (first | exact Below.refl _ _ | apply below_alloc)⟩
          · have z4 : smB 1 1 1 v = false := by simpa using hz4
            clear hz4
            have HR : Aside0 (chkB 5 a c v t n o = false) := ⟨by simp [chkB, z0, z1, z2, z3, z4]⟩
            rw [HR.out]
            go_enter Try.func29, Try.ntmps29
            go_wp2_with (first | (go_at_call 49; refine (within_c _ _ _ _).mono ?_; rintro e w' ⟨rfl, rfl⟩) | (go_at_call 50; refine (span_c _ _ _).mono ?_; rintro e w' ⟨rfl, rfl⟩) | (go_at_call 51; refine (some_c A cc v _ _ _ _ ?hv).mono ?_; (case hv => (with_reducible repeat (first | refine Kd.C_alloc ?_ _ | refine Kd.C_drewN ?_ _ | refine Kd.C_drew ?_)); exact HV.out); rintro e w' ⟨rfl, rfl⟩) | (go_at_call 52; refine (all_c _ _ [n, o] _ _ ?hv).mono ?_; (case hv => exact row_C (xs := [n, o]) (new_blk (by simp)) (by simp)); rintro e w' ⟨rfl, rfl⟩))
            go_ret
            exact ⟨rfl, by repeat (first | exact Below.refl _ _ | apply below_alloc)⟩
        · have z3 : (c == 0) = false := by simpa using hz3
          clear hz3
          have HR : Aside0 (chkB 5 a c v t n o = false) := ⟨by simp [chkB, z0, z1, z2, z3]⟩
          rw [HR.out]
          go_enter Try.func29, Try.ntmps29
          go_wp2_with (first | (go_at_call 49; refine (within_c _ _ _ _).mono ?_; rintro e w' ⟨rfl, rfl⟩) | (go_at_call 50; refine (span_c _ _ _).mono ?_; rintro e w' ⟨rfl, rfl⟩) | (go_at_call 51; refine (some_c A cc v _ _ _ _ ?hv).mono ?_; (case hv => (with_reducible repeat (first | refine Kd.C_alloc ?_ _ | refine Kd.C_drewN ?_ _ | refine Kd.C_drew ?_)); exact HV.out); rintro e w' ⟨rfl, rfl⟩) | (go_at_call 52; refine (all_c _ _ [n, o] _ _ ?hv).mono ?_; (case hv => exact row_C (xs := [n, o]) (new_blk (by simp)) (by simp)); rintro e w' ⟨rfl, rfl⟩))
          go_ret
          exact ⟨rfl, by repeat (first | exact Below.refl _ _ | apply below_alloc)⟩
      · have z2 : (o == 0) = false := by simpa using hz2
        clear hz2
        have HR : Aside0 (chkB 5 a c v t n o = false) := ⟨by simp [chkB, z0, z1, z2]⟩
        rw [HR.out]
        go_enter Try.func29, Try.ntmps29
        go_wp2_with (first | (go_at_call 49; refine (within_c _ _ _ _).mono ?_; rintro e w' ⟨rfl, rfl⟩) | (go_at_call 50; refine (span_c _ _ _).mono ?_; rintro e w' ⟨rfl, rfl⟩) | (go_at_call 51; refine (some_c A cc v _ _ _ _ ?hv).mono ?_; (case hv => (with_reducible repeat (first | refine Kd.C_alloc ?_ _ | refine Kd.C_drewN ?_ _ | refine Kd.C_drew ?_)); exact HV.out); rintro e w' ⟨rfl, rfl⟩) | (go_at_call 52; refine (all_c _ _ [n, o] _ _ ?hv).mono ?_; (case hv => exact row_C (xs := [n, o]) (new_blk (by simp)) (by simp)); rintro e w' ⟨rfl, rfl⟩))
        go_ret
        exact ⟨rfl, by repeat (first | exact Below.refl _ _ | apply below_alloc)⟩
    · have z1 : (n == 0) = false := by simpa using hz1
      clear hz1
      have HR : Aside0 (chkB 5 a c v t n o = false) := ⟨by simp [chkB, z0, z1]⟩
      rw [HR.out]
      go_enter Try.func29, Try.ntmps29
      go_wp2_with (first | (go_at_call 49; refine (within_c _ _ _ _).mono ?_; rintro e w' ⟨rfl, rfl⟩) | (go_at_call 50; refine (span_c _ _ _).mono ?_; rintro e w' ⟨rfl, rfl⟩) | (go_at_call 51; refine (some_c A cc v _ _ _ _ ?hv).mono ?_; (case hv => (with_reducible repeat (first | refine Kd.C_alloc ?_ _ | refine Kd.C_drewN ?_ _ | refine Kd.C_drew ?_)); exact HV.out); rintro e w' ⟨rfl, rfl⟩) | (go_at_call 52; refine (all_c _ _ [n, o] _ _ ?hv).mono ?_; (case hv => exact row_C (xs := [n, o]) (new_blk (by simp)) (by simp)); rintro e w' ⟨rfl, rfl⟩))
      go_ret
      exact ⟨rfl, by repeat (first | exact Below.refl _ _ | apply below_alloc)⟩
  · have z0 : (t == 0) = false := by simpa using hz0
    clear hz0
    have HR : Aside0 (chkB 5 a c v t n o = false) := ⟨by simp [chkB, z0]⟩
    rw [HR.out]
    go_enter Try.func29, Try.ntmps29
    go_wp2_with (first | (go_at_call 49; refine (within_c _ _ _ _).mono ?_; rintro e w' ⟨rfl, rfl⟩) | (go_at_call 50; refine (span_c _ _ _).mono ?_; rintro e w' ⟨rfl, rfl⟩) | (go_at_call 51; refine (some_c A cc v _ _ _ _ ?hv).mono ?_; (case hv => (with_reducible repeat (first | refine Kd.C_alloc ?_ _ | refine Kd.C_drewN ?_ _ | refine Kd.C_drew ?_)); exact HV.out); rintro e w' ⟨rfl, rfl⟩) | (go_at_call 52; refine (all_c _ _ [n, o] _ _ ?hv).mono ?_; (case hv => exact row_C (xs := [n, o]) (new_blk (by simp)) (by simp)); rintro e w' ⟨rfl, rfl⟩))
    go_ret
    exact ⟨rfl, by repeat (first | exact Below.refl _ _ | apply below_alloc)⟩
set_option maxHeartbeats 4000000 in
set_option maxRecDepth 100000 in
theorem chk_6 (a c : Int) (A : Option Addr) (cc : Nat) (v : List Int) (t n o : Int) (w : World) (hV : Kd.C (Kd.int .i64) w A v.length v) : Calls Try.prog 29 #[.agg #[.int .i64 6, .int .i64 a, .int .i64 c, .slice A v.length cc, .int .i64 t, .int .i64 n, .int .i64 o]] w fun e w' => e = .returned (.int .i64 (if chkB 6 a c v t n o then 0 else 1)) ∧ Below w.heap.size w w' := by
  have HV := Aside0.mk hV; clear hV
  by_cases hz0 : (t == 0) = true
  · have z0 : (t == 0) = true := hz0; clear hz0
    by_cases hz1 : (n == 0) = true
    · have z1 : (n == 0) = true := hz1; clear hz1
      by_cases hz2 : (o == 0) = true
      · have z2 : (o == 0) = true := hz2; clear hz2
        by_cases hz3 : (c == 0) = true
        · have z3 : (c == 0) = true := hz3; clear hz3
          by_cases hz4 : smB 1 1 65535 v = true
          · have z4 : smB 1 1 65535 v = true := hz4; clear hz4; have pz4 := smB_len z4
            by_cases hz5 : spB a 1 = true
            · have z5 : spB a 1 = true := hz5; clear hz5
              have HR : Aside0 (chkB 6 a c v t n o = true) := ⟨by simp [chkB, z0, z1, z2, z3, z4, z5]⟩
              rw [HR.out]
              go_enter Try.func29, Try.ntmps29
              go_wp2_with (first | (go_at_call 49; refine (within_c _ _ _ _).mono ?_; rintro e w' ⟨rfl, rfl⟩) | (go_at_call 50; refine (span_c _ _ _).mono ?_; rintro e w' ⟨rfl, rfl⟩) | (go_at_call 51; refine (some_c A cc v _ _ _ _ ?hv).mono ?_; (case hv => (with_reducible repeat (first | refine Kd.C_alloc ?_ _ | refine Kd.C_drewN ?_ _ | refine Kd.C_drew ?_)); exact HV.out); rintro e w' ⟨rfl, rfl⟩) | (go_at_call 52; refine (all_c _ _ [n, o] _ _ ?hv).mono ?_; (case hv => exact row_C (xs := [n, o]) (new_blk (by simp)) (by simp)); rintro e w' ⟨rfl, rfl⟩))
              go_ret
              exact ⟨rfl, by repeat (first | exact Below.refl _ _ | apply below_alloc)⟩
            · have z5 : spB a 1 = false := by simpa using hz5
              clear hz5
              have HR : Aside0 (chkB 6 a c v t n o = false) := ⟨by simp [chkB, z0, z1, z2, z3, z4, z5]⟩
              rw [HR.out]
              go_enter Try.func29, Try.ntmps29
              go_wp2_with (first | (go_at_call 49; refine (within_c _ _ _ _).mono ?_; rintro e w' ⟨rfl, rfl⟩) | (go_at_call 50; refine (span_c _ _ _).mono ?_; rintro e w' ⟨rfl, rfl⟩) | (go_at_call 51; refine (some_c A cc v _ _ _ _ ?hv).mono ?_; (case hv => (with_reducible repeat (first | refine Kd.C_alloc ?_ _ | refine Kd.C_drewN ?_ _ | refine Kd.C_drew ?_)); exact HV.out); rintro e w' ⟨rfl, rfl⟩) | (go_at_call 52; refine (all_c _ _ [n, o] _ _ ?hv).mono ?_; (case hv => exact row_C (xs := [n, o]) (new_blk (by simp)) (by simp)); rintro e w' ⟨rfl, rfl⟩))
              go_ret
              exact ⟨rfl, by repeat (first | exact Below.refl _ _ | apply below_alloc)⟩
          · have z4 : smB 1 1 65535 v = false := by simpa using hz4
            clear hz4
            have HR : Aside0 (chkB 6 a c v t n o = false) := ⟨by simp [chkB, z0, z1, z2, z3, z4]⟩
            rw [HR.out]
            go_enter Try.func29, Try.ntmps29
            go_wp2_with (first | (go_at_call 49; refine (within_c _ _ _ _).mono ?_; rintro e w' ⟨rfl, rfl⟩) | (go_at_call 50; refine (span_c _ _ _).mono ?_; rintro e w' ⟨rfl, rfl⟩) | (go_at_call 51; refine (some_c A cc v _ _ _ _ ?hv).mono ?_; (case hv => (with_reducible repeat (first | refine Kd.C_alloc ?_ _ | refine Kd.C_drewN ?_ _ | refine Kd.C_drew ?_)); exact HV.out); rintro e w' ⟨rfl, rfl⟩) | (go_at_call 52; refine (all_c _ _ [n, o] _ _ ?hv).mono ?_; (case hv => exact row_C (xs := [n, o]) (new_blk (by simp)) (by simp)); rintro e w' ⟨rfl, rfl⟩))
            go_ret
            exact ⟨rfl, by repeat (first | exact Below.refl _ _ | apply below_alloc)⟩
        · have z3 : (c == 0) = false := by simpa using hz3
          clear hz3
          have HR : Aside0 (chkB 6 a c v t n o = false) := ⟨by simp [chkB, z0, z1, z2, z3]⟩
          rw [HR.out]
          go_enter Try.func29, Try.ntmps29
          go_wp2_with (first | (go_at_call 49; refine (within_c _ _ _ _).mono ?_; rintro e w' ⟨rfl, rfl⟩) | (go_at_call 50; refine (span_c _ _ _).mono ?_; rintro e w' ⟨rfl, rfl⟩) | (go_at_call 51; refine (some_c A cc v _ _ _ _ ?hv).mono ?_; (case hv => (with_reducible repeat (first | refine Kd.C_alloc ?_ _ | refine Kd.C_drewN ?_ _ | refine Kd.C_drew ?_)); exact HV.out); rintro e w' ⟨rfl, rfl⟩) | (go_at_call 52; refine (all_c _ _ [n, o] _ _ ?hv).mono ?_; (case hv => exact row_C (xs := [n, o]) (new_blk (by simp)) (by simp)); rintro e w' ⟨rfl, rfl⟩))
          go_ret
          exact ⟨rfl, by repeat (first | exact Below.refl _ _ | apply below_alloc)⟩
      · have z2 : (o == 0) = false := by simpa using hz2
        clear hz2
        have HR : Aside0 (chkB 6 a c v t n o = false) := ⟨by simp [chkB, z0, z1, z2]⟩
        rw [HR.out]
        go_enter Try.func29, Try.ntmps29
        go_wp2_with (first | (go_at_call 49; refine (within_c _ _ _ _).mono ?_; rintro e w' ⟨rfl, rfl⟩) | (go_at_call 50; refine (span_c _ _ _).mono ?_; rintro e w' ⟨rfl, rfl⟩) | (go_at_call 51; refine (some_c A cc v _ _ _ _ ?hv).mono ?_; (case hv => (with_reducible repeat (first | refine Kd.C_alloc ?_ _ | refine Kd.C_drewN ?_ _ | refine Kd.C_drew ?_)); exact HV.out); rintro e w' ⟨rfl, rfl⟩) | (go_at_call 52; refine (all_c _ _ [n, o] _ _ ?hv).mono ?_; (case hv => exact row_C (xs := [n, o]) (new_blk (by simp)) (by simp)); rintro e w' ⟨rfl, rfl⟩))
        go_ret
        exact ⟨rfl, by repeat (first | exact Below.refl _ _ | apply below_alloc)⟩
    · have z1 : (n == 0) = false := by simpa using hz1
      clear hz1
      have HR : Aside0 (chkB 6 a c v t n o = false) := ⟨by simp [chkB, z0, z1]⟩
      rw [HR.out]
      go_enter Try.func29, Try.ntmps29
      go_wp2_with (first | (go_at_call 49; refine (within_c _ _ _ _).mono ?_; rintro e w' ⟨rfl, rfl⟩) | (go_at_call 50; refine (span_c _ _ _).mono ?_; rintro e w' ⟨rfl, rfl⟩) | (go_at_call 51; refine (some_c A cc v _ _ _ _ ?hv).mono ?_; (case hv => (with_reducible repeat (first | refine Kd.C_alloc ?_ _ | refine Kd.C_drewN ?_ _ | refine Kd.C_drew ?_)); exact HV.out); rintro e w' ⟨rfl, rfl⟩) | (go_at_call 52; refine (all_c _ _ [n, o] _ _ ?hv).mono ?_; (case hv => exact row_C (xs := [n, o]) (new_blk (by simp)) (by simp)); rintro e w' ⟨rfl, rfl⟩))
      go_ret
      exact ⟨rfl, by repeat (first | exact Below.refl _ _ | apply below_alloc)⟩
  · have z0 : (t == 0) = false := by simpa using hz0
    clear hz0
    have HR : Aside0 (chkB 6 a c v t n o = false) := ⟨by simp [chkB, z0]⟩
    rw [HR.out]
    go_enter Try.func29, Try.ntmps29
    go_wp2_with (first | (go_at_call 49; refine (within_c _ _ _ _).mono ?_; rintro e w' ⟨rfl, rfl⟩) | (go_at_call 50; refine (span_c _ _ _).mono ?_; rintro e w' ⟨rfl, rfl⟩) | (go_at_call 51; refine (some_c A cc v _ _ _ _ ?hv).mono ?_; (case hv => (with_reducible repeat (first | refine Kd.C_alloc ?_ _ | refine Kd.C_drewN ?_ _ | refine Kd.C_drew ?_)); exact HV.out); rintro e w' ⟨rfl, rfl⟩) | (go_at_call 52; refine (all_c _ _ [n, o] _ _ ?hv).mono ?_; (case hv => exact row_C (xs := [n, o]) (new_blk (by simp)) (by simp)); rintro e w' ⟨rfl, rfl⟩))
    go_ret
    exact ⟨rfl, by repeat (first | exact Below.refl _ _ | apply below_alloc)⟩
end Go.Proofs.Ytocicifgglkaeaa.Chk
end

section
namespace Go.Proofs.Ytocicifgglkaeaa.Chk
open Go.RowKit Go.Proofs.YtocicifgglkaeaaW.PrintWords Go.Proofs.YtocicifgglkaeaaW.PrintLast Go.Proofs.YtocicifgglkaeaaW.PrintMore Go.Proofs.Ytocicifgglkaeaa.Core Go.Proofs.Ytocicifgglkaeaa.Wk
set_option linter.unusedVariables false
set_option linter.unusedSimpArgs false
set_option maxHeartbeats 4000000 in
set_option maxRecDepth 100000 in
theorem chk_15 (a c : Int) (A : Option Addr) (cc : Nat) (v : List Int) (t n o : Int) (w : World) (hV : Kd.C (Kd.int .i64) w A v.length v) : Calls Try.prog 29 #[.agg #[.int .i64 15, .int .i64 a, .int .i64 c, .slice A v.length cc, .int .i64 t, .int .i64 n, .int .i64 o]] w fun e w' => e = .returned (.int .i64 (if chkB 15 a c v t n o then 0 else 1)) ∧ Below w.heap.size w w' := by
  have HV := Aside0.mk hV; clear hV
  by_cases hz0 : (t == 0) = true
  · have z0 : (t == 0) = true := hz0; clear hz0
    by_cases hz1 : (n == 0) = true
    · have z1 : (n == 0) = true := hz1; clear hz1
      by_cases hz2 : (o == 0) = true
      · have z2 : (o == 0) = true := hz2; clear hz2
        by_cases hz3 : (c == (v.length : Int)) = true
        · have z3 : (c == (v.length : Int)) = true := hz3; clear hz3
          by_cases hz4 : smB 1 1968 1 v = true
          · have z4 : smB 1 1968 1 v = true := hz4; clear hz4; have pz4 := smB_len z4
            by_cases hz5 : spB a v.length = true
            · have z5 : spB a v.length = true := hz5; clear hz5
              have HR : Aside0 (chkB 15 a c v t n o = true) := ⟨by simp [chkB, z0, z1, z2, z3, z4, z5]⟩
              rw [HR.out]
              go_enter Try.func29, Try.ntmps29
              go_wp2_with (first | (go_at_call 49; refine (within_c _ _ _ _).mono ?_; rintro e w' ⟨rfl, rfl⟩) | (go_at_call 50; refine (span_c _ _ _).mono ?_; rintro e w' ⟨rfl, rfl⟩) | (go_at_call 51; refine (some_c A cc v _ _ _ _ ?hv).mono ?_; (case hv => (with_reducible repeat (first | refine Kd.C_alloc ?_ _ | refine Kd.C_drewN ?_ _ | refine Kd.C_drew ?_)); exact HV.out); rintro e w' ⟨rfl, rfl⟩) | (go_at_call 52; refine (all_c _ _ [n, o] _ _ ?hv).mono ?_; (case hv => exact row_C (xs := [n, o]) (new_blk (by simp)) (by simp)); rintro e w' ⟨rfl, rfl⟩))
              go_ret
              exact ⟨rfl, by repeat (first | exact Below.refl _ _ | apply below_alloc)⟩
            · have z5 : spB a v.length = false := by simpa using hz5
              clear hz5
              have HR : Aside0 (chkB 15 a c v t n o = false) := ⟨by simp [chkB, z0, z1, z2, z3, z4, z5]⟩
              rw [HR.out]
              go_enter Try.func29, Try.ntmps29
              go_wp2_with (first | (go_at_call 49; refine (within_c _ _ _ _).mono ?_; rintro e w' ⟨rfl, rfl⟩) | (go_at_call 50; refine (span_c _ _ _).mono ?_; rintro e w' ⟨rfl, rfl⟩) | (go_at_call 51; refine (some_c A cc v _ _ _ _ ?hv).mono ?_; (case hv => (with_reducible repeat (first | refine Kd.C_alloc ?_ _ | refine Kd.C_drewN ?_ _ | refine Kd.C_drew ?_)); exact HV.out); rintro e w' ⟨rfl, rfl⟩) | (go_at_call 52; refine (all_c _ _ [n, o] _ _ ?hv).mono ?_; (case hv => exact row_C (xs := [n, o]) (new_blk (by simp)) (by simp)); rintro e w' ⟨rfl, rfl⟩))
              go_ret
              exact ⟨rfl, by repeat (first | exact Below.refl _ _ | apply below_alloc)⟩
          · have z4 : smB 1 1968 1 v = false := by simpa using hz4
            clear hz4
            have HR : Aside0 (chkB 15 a c v t n o = false) := ⟨by simp [chkB, z0, z1, z2, z3, z4]⟩
            rw [HR.out]
            go_enter Try.func29, Try.ntmps29
            go_wp2_with (first | (go_at_call 49; refine (within_c _ _ _ _).mono ?_; rintro e w' ⟨rfl, rfl⟩) | (go_at_call 50; refine (span_c _ _ _).mono ?_; rintro e w' ⟨rfl, rfl⟩) | (go_at_call 51; refine (some_c A cc v _ _ _ _ ?hv).mono ?_; (case hv => (with_reducible repeat (first | refine Kd.C_alloc ?_ _ | refine Kd.C_drewN ?_ _ | refine Kd.C_drew ?_)); exact HV.out); rintro e w' ⟨rfl, rfl⟩) | (go_at_call 52; refine (all_c _ _ [n, o] _ _ ?hv).mono ?_; (case hv => exact row_C (xs := [n, o]) (new_blk (by simp)) (by simp)); rintro e w' ⟨rfl, rfl⟩))
            go_ret
            exact ⟨rfl, by repeat (first | exact Below.refl _ _ | apply below_alloc)⟩
        · have z3 : (c == (v.length : Int)) = false := by simpa using hz3
          clear hz3
          have HR : Aside0 (chkB 15 a c v t n o = false) := ⟨by simp [chkB, z0, z1, z2, z3]⟩
          rw [HR.out]
          go_enter Try.func29, Try.ntmps29
          go_wp2_with (first | (go_at_call 49; refine (within_c _ _ _ _).mono ?_; rintro e w' ⟨rfl, rfl⟩) | (go_at_call 50; refine (span_c _ _ _).mono ?_; rintro e w' ⟨rfl, rfl⟩) | (go_at_call 51; refine (some_c A cc v _ _ _ _ ?hv).mono ?_; (case hv => (with_reducible repeat (first | refine Kd.C_alloc ?_ _ | refine Kd.C_drewN ?_ _ | refine Kd.C_drew ?_)); exact HV.out); rintro e w' ⟨rfl, rfl⟩) | (go_at_call 52; refine (all_c _ _ [n, o] _ _ ?hv).mono ?_; (case hv => exact row_C (xs := [n, o]) (new_blk (by simp)) (by simp)); rintro e w' ⟨rfl, rfl⟩))
          go_ret
          exact ⟨rfl, by repeat (first | exact Below.refl _ _ | apply below_alloc)⟩
      · have z2 : (o == 0) = false := by simpa using hz2
        clear hz2
        have HR : Aside0 (chkB 15 a c v t n o = false) := ⟨by simp [chkB, z0, z1, z2]⟩
        rw [HR.out]
        go_enter Try.func29, Try.ntmps29
        go_wp2_with (first | (go_at_call 49; refine (within_c _ _ _ _).mono ?_; rintro e w' ⟨rfl, rfl⟩) | (go_at_call 50; refine (span_c _ _ _).mono ?_; rintro e w' ⟨rfl, rfl⟩) | (go_at_call 51; refine (some_c A cc v _ _ _ _ ?hv).mono ?_; (case hv => (with_reducible repeat (first | refine Kd.C_alloc ?_ _ | refine Kd.C_drewN ?_ _ | refine Kd.C_drew ?_)); exact HV.out); rintro e w' ⟨rfl, rfl⟩) | (go_at_call 52; refine (all_c _ _ [n, o] _ _ ?hv).mono ?_; (case hv => exact row_C (xs := [n, o]) (new_blk (by simp)) (by simp)); rintro e w' ⟨rfl, rfl⟩))
        go_ret
        exact ⟨rfl, by repeat (first | exact Below.refl _ _ | apply below_alloc)⟩
    · have z1 : (n == 0) = false := by simpa using hz1
      clear hz1
      have HR : Aside0 (chkB 15 a c v t n o = false) := ⟨by simp [chkB, z0, z1]⟩
      rw [HR.out]
      go_enter Try.func29, Try.ntmps29
      go_wp2_with (first | (go_at_call 49; refine (within_c _ _ _ _).mono ?_; rintro e w' ⟨rfl, rfl⟩) | (go_at_call 50; refine (span_c _ _ _).mono ?_; rintro e w' ⟨rfl, rfl⟩) | (go_at_call 51; refine (some_c A cc v _ _ _ _ ?hv).mono ?_; (case hv => (with_reducible repeat (first | refine Kd.C_alloc ?_ _ | refine Kd.C_drewN ?_ _ | refine Kd.C_drew ?_)); exact HV.out); rintro e w' ⟨rfl, rfl⟩) | (go_at_call 52; refine (all_c _ _ [n, o] _ _ ?hv).mono ?_; (case hv => exact row_C (xs := [n, o]) (new_blk (by simp)) (by simp)); rintro e w' ⟨rfl, rfl⟩))
      go_ret
      exact ⟨rfl, by repeat (first | exact Below.refl _ _ | apply below_alloc)⟩
  · have z0 : (t == 0) = false := by simpa using hz0
    clear hz0
    have HR : Aside0 (chkB 15 a c v t n o = false) := ⟨by simp [chkB, z0]⟩
    rw [HR.out]
    go_enter Try.func29, Try.ntmps29
    go_wp2_with (first | (go_at_call 49; refine (within_c _ _ _ _).mono ?_; rintro e w' ⟨rfl, rfl⟩) | (go_at_call 50; refine (span_c _ _ _).mono ?_; rintro e w' ⟨rfl, rfl⟩) | (go_at_call 51; refine (some_c A cc v _ _ _ _ ?hv).mono ?_; (case hv => (with_reducible repeat (first | refine Kd.C_alloc ?_ _ | refine Kd.C_drewN ?_ _ | refine Kd.C_drew ?_)); exact HV.out); rintro e w' ⟨rfl, rfl⟩) | (go_at_call 52; refine (all_c _ _ [n, o] _ _ ?hv).mono ?_; (case hv => exact row_C (xs := [n, o]) (new_blk (by simp)) (by simp)); rintro e w' ⟨rfl, rfl⟩))
    go_ret
    exact ⟨rfl, by repeat (first | exact Below.refl _ _ | apply below_alloc)⟩
set_option maxHeartbeats 4000000 in
set_option maxRecDepth 100000 in
theorem chk_16 (a c : Int) (A : Option Addr) (cc : Nat) (v : List Int) (t n o : Int) (w : World) (hV : Kd.C (Kd.int .i64) w A v.length v) : Calls Try.prog 29 #[.agg #[.int .i64 16, .int .i64 a, .int .i64 c, .slice A v.length cc, .int .i64 t, .int .i64 n, .int .i64 o]] w fun e w' => e = .returned (.int .i64 (if chkB 16 a c v t n o then 0 else 1)) ∧ Below w.heap.size w w' := by
  have HV := Aside0.mk hV; clear hV
  by_cases hz0 : (t == 0) = true
  · have z0 : (t == 0) = true := hz0; clear hz0
    by_cases hz1 : (n == 0) = true
    · have z1 : (n == 0) = true := hz1; clear hz1
      by_cases hz2 : (o == 0) = true
      · have z2 : (o == 0) = true := hz2; clear hz2
        by_cases hz3 : (c == (v.length : Int)) = true
        · have z3 : (c == (v.length : Int)) = true := hz3; clear hz3
          by_cases hz4 : smB 1 123 65535 v = true
          · have z4 : smB 1 123 65535 v = true := hz4; clear hz4; have pz4 := smB_len z4
            by_cases hz5 : spB a v.length = true
            · have z5 : spB a v.length = true := hz5; clear hz5
              have HR : Aside0 (chkB 16 a c v t n o = true) := ⟨by simp [chkB, z0, z1, z2, z3, z4, z5]⟩
              rw [HR.out]
              go_enter Try.func29, Try.ntmps29
              go_wp2_with (first | (go_at_call 49; refine (within_c _ _ _ _).mono ?_; rintro e w' ⟨rfl, rfl⟩) | (go_at_call 50; refine (span_c _ _ _).mono ?_; rintro e w' ⟨rfl, rfl⟩) | (go_at_call 51; refine (some_c A cc v _ _ _ _ ?hv).mono ?_; (case hv => (with_reducible repeat (first | refine Kd.C_alloc ?_ _ | refine Kd.C_drewN ?_ _ | refine Kd.C_drew ?_)); exact HV.out); rintro e w' ⟨rfl, rfl⟩) | (go_at_call 52; refine (all_c _ _ [n, o] _ _ ?hv).mono ?_; (case hv => exact row_C (xs := [n, o]) (new_blk (by simp)) (by simp)); rintro e w' ⟨rfl, rfl⟩))
              go_ret
              exact ⟨rfl, by repeat (first | exact Below.refl _ _ | apply below_alloc)⟩
            · have z5 : spB a v.length = false := by simpa using hz5
              clear hz5
              have HR : Aside0 (chkB 16 a c v t n o = false) := ⟨by simp [chkB, z0, z1, z2, z3, z4, z5]⟩
              rw [HR.out]
              go_enter Try.func29, Try.ntmps29
              go_wp2_with (first | (go_at_call 49; refine (within_c _ _ _ _).mono ?_; rintro e w' ⟨rfl, rfl⟩) | (go_at_call 50; refine (span_c _ _ _).mono ?_; rintro e w' ⟨rfl, rfl⟩) | (go_at_call 51; refine (some_c A cc v _ _ _ _ ?hv).mono ?_; (case hv => (with_reducible repeat (first | refine Kd.C_alloc ?_ _ | refine Kd.C_drewN ?_ _ | refine Kd.C_drew ?_)); exact HV.out); rintro e w' ⟨rfl, rfl⟩) | (go_at_call 52; refine (all_c _ _ [n, o] _ _ ?hv).mono ?_; (case hv => exact row_C (xs := [n, o]) (new_blk (by simp)) (by simp)); rintro e w' ⟨rfl, rfl⟩))
              go_ret
              exact ⟨rfl, by repeat (first | exact Below.refl _ _ | apply below_alloc)⟩
          · have z4 : smB 1 123 65535 v = false := by simpa using hz4
            clear hz4
            have HR : Aside0 (chkB 16 a c v t n o = false) := ⟨by simp [chkB, z0, z1, z2, z3, z4]⟩
            rw [HR.out]
            go_enter Try.func29, Try.ntmps29
            go_wp2_with (first | (go_at_call 49; refine (within_c _ _ _ _).mono ?_; rintro e w' ⟨rfl, rfl⟩) | (go_at_call 50; refine (span_c _ _ _).mono ?_; rintro e w' ⟨rfl, rfl⟩) | (go_at_call 51; refine (some_c A cc v _ _ _ _ ?hv).mono ?_; (case hv => (with_reducible repeat (first | refine Kd.C_alloc ?_ _ | refine Kd.C_drewN ?_ _ | refine Kd.C_drew ?_)); exact HV.out); rintro e w' ⟨rfl, rfl⟩) | (go_at_call 52; refine (all_c _ _ [n, o] _ _ ?hv).mono ?_; (case hv => exact row_C (xs := [n, o]) (new_blk (by simp)) (by simp)); rintro e w' ⟨rfl, rfl⟩))
            go_ret
            exact ⟨rfl, by repeat (first | exact Below.refl _ _ | apply below_alloc)⟩
        · have z3 : (c == (v.length : Int)) = false := by simpa using hz3
          clear hz3
          have HR : Aside0 (chkB 16 a c v t n o = false) := ⟨by simp [chkB, z0, z1, z2, z3]⟩
          rw [HR.out]
          go_enter Try.func29, Try.ntmps29
          go_wp2_with (first | (go_at_call 49; refine (within_c _ _ _ _).mono ?_; rintro e w' ⟨rfl, rfl⟩) | (go_at_call 50; refine (span_c _ _ _).mono ?_; rintro e w' ⟨rfl, rfl⟩) | (go_at_call 51; refine (some_c A cc v _ _ _ _ ?hv).mono ?_; (case hv => (with_reducible repeat (first | refine Kd.C_alloc ?_ _ | refine Kd.C_drewN ?_ _ | refine Kd.C_drew ?_)); exact HV.out); rintro e w' ⟨rfl, rfl⟩) | (go_at_call 52; refine (all_c _ _ [n, o] _ _ ?hv).mono ?_; (case hv => exact row_C (xs := [n, o]) (new_blk (by simp)) (by simp)); rintro e w' ⟨rfl, rfl⟩))
          go_ret
          exact ⟨rfl, by repeat (first | exact Below.refl _ _ | apply below_alloc)⟩
      · have z2 : (o == 0) = false := by simpa using hz2
        clear hz2
        have HR : Aside0 (chkB 16 a c v t n o = false) := ⟨by simp [chkB, z0, z1, z2]⟩
        rw [HR.out]
        go_enter Try.func29, Try.ntmps29
        go_wp2_with (first | (go_at_call 49; refine (within_c _ _ _ _).mono ?_; rintro e w' ⟨rfl, rfl⟩) | (go_at_call 50; refine (span_c _ _ _).mono ?_; rintro e w' ⟨rfl, rfl⟩) | (go_at_call 51; refine (some_c A cc v _ _ _ _ ?hv).mono ?_; (case hv => (with_reducible repeat (first | refine Kd.C_alloc ?_ _ | refine Kd.C_drewN ?_ _ | refine Kd.C_drew ?_)); exact HV.out); rintro e w' ⟨rfl, rfl⟩) | (go_at_call 52; refine (all_c _ _ [n, o] _ _ ?hv).mono ?_; (case hv => exact row_C (xs := [n, o]) (new_blk (by simp)) (by simp)); rintro e w' ⟨rfl, rfl⟩))
        go_ret
        exact ⟨rfl, by repeat (first | exact Below.refl _ _ | apply below_alloc)⟩
    · have z1 : (n == 0) = false := by simpa using hz1
      clear hz1
      have HR : Aside0 (chkB 16 a c v t n o = false) := ⟨by simp [chkB, z0, z1]⟩
      rw [HR.out]
      go_enter Try.func29, Try.ntmps29
      go_wp2_with (first | (go_at_call 49; refine (within_c _ _ _ _).mono ?_; rintro e w' ⟨rfl, rfl⟩) | (go_at_call 50; refine (span_c _ _ _).mono ?_; rintro e w' ⟨rfl, rfl⟩) | (go_at_call 51; refine (some_c A cc v _ _ _ _ ?hv).mono ?_; (case hv => (with_reducible repeat (first | refine Kd.C_alloc ?_ _ | refine Kd.C_drewN ?_ _ | refine Kd.C_drew ?_)); exact HV.out); rintro e w' ⟨rfl, rfl⟩) | (go_at_call 52; refine (all_c _ _ [n, o] _ _ ?hv).mono ?_; (case hv => exact row_C (xs := [n, o]) (new_blk (by simp)) (by simp)); rintro e w' ⟨rfl, rfl⟩))
      go_ret
      exact ⟨rfl, by repeat (first | exact Below.refl _ _ | apply below_alloc)⟩
  · have z0 : (t == 0) = false := by simpa using hz0
    clear hz0
    have HR : Aside0 (chkB 16 a c v t n o = false) := ⟨by simp [chkB, z0]⟩
    rw [HR.out]
    go_enter Try.func29, Try.ntmps29
    go_wp2_with (first | (go_at_call 49; refine (within_c _ _ _ _).mono ?_; rintro e w' ⟨rfl, rfl⟩) | (go_at_call 50; refine (span_c _ _ _).mono ?_; rintro e w' ⟨rfl, rfl⟩) | (go_at_call 51; refine (some_c A cc v _ _ _ _ ?hv).mono ?_; (case hv => (with_reducible repeat (first | refine Kd.C_alloc ?_ _ | refine Kd.C_drewN ?_ _ | refine Kd.C_drew ?_)); exact HV.out); rintro e w' ⟨rfl, rfl⟩) | (go_at_call 52; refine (all_c _ _ [n, o] _ _ ?hv).mono ?_; (case hv => exact row_C (xs := [n, o]) (new_blk (by simp)) (by simp)); rintro e w' ⟨rfl, rfl⟩))
    go_ret
    exact ⟨rfl, by repeat (first | exact Below.refl _ _ | apply below_alloc)⟩
end Go.Proofs.Ytocicifgglkaeaa.Chk
end

section
namespace Go.Proofs.Ytocicifgglkaeaa.Chk
open Go.RowKit Go.Proofs.YtocicifgglkaeaaW.PrintWords Go.Proofs.YtocicifgglkaeaaW.PrintLast Go.Proofs.YtocicifgglkaeaaW.PrintMore Go.Proofs.Ytocicifgglkaeaa.Core Go.Proofs.Ytocicifgglkaeaa.Wk
set_option linter.unusedVariables false
set_option linter.unusedSimpArgs false
set_option maxHeartbeats 4000000 in
set_option maxRecDepth 100000 in
theorem chk_22 (a c : Int) (A : Option Addr) (cc : Nat) (v : List Int) (t n o : Int) (w : World) (hV : Kd.C (Kd.int .i64) w A v.length v) : Calls Try.prog 29 #[.agg #[.int .i64 22, .int .i64 a, .int .i64 c, .slice A v.length cc, .int .i64 t, .int .i64 n, .int .i64 o]] w fun e w' => e = .returned (.int .i64 (if chkB 22 a c v t n o then 0 else 1)) ∧ Below w.heap.size w w' := by
  have HV := Aside0.mk hV; clear hV
  by_cases hz0 : (t == 0) = true
  · have z0 : (t == 0) = true := hz0; clear hz0
    by_cases hz1 : (n == 0) = true
    · have z1 : (n == 0) = true := hz1; clear hz1
      by_cases hz2 : (o == 0) = true
      · have z2 : (o == 0) = true := hz2; clear hz2
        by_cases hz3 : ((v.length : Int) == 0) = true
        · have z3 : ((v.length : Int) == 0) = true := hz3; clear hz3
          by_cases hz4 : (c == 0) = true
          · have z4 : (c == 0) = true := hz4; clear hz4
            by_cases hz5 : spB a 1 = true
            · have z5 : spB a 1 = true := hz5; clear hz5
              by_cases hz6 : lowB 65535 [n, o] = true
              · have z6 : lowB 65535 [n, o] = true := hz6; clear hz6
                have HR : Aside0 (chkB 22 a c v t n o = true) := ⟨by have hlw := low_two n o; simp_all [chkB]⟩
                rw [HR.out]
                go_enter Try.func29, Try.ntmps29
                go_wp2_with (first | (go_at_call 49; refine (within_c _ _ _ _).mono ?_; rintro e w' ⟨rfl, rfl⟩) | (go_at_call 50; refine (span_c _ _ _).mono ?_; rintro e w' ⟨rfl, rfl⟩) | (go_at_call 51; refine (some_c A cc v _ _ _ _ ?hv).mono ?_; (case hv => (with_reducible repeat (first | refine Kd.C_alloc ?_ _ | refine Kd.C_drewN ?_ _ | refine Kd.C_drew ?_)); exact HV.out); rintro e w' ⟨rfl, rfl⟩) | (go_at_call 52; refine (all_c _ _ [n, o] _ _ ?hv).mono ?_; (case hv => exact row_C (xs := [n, o]) (new_blk (by simp)) (by simp)); rintro e w' ⟨rfl, rfl⟩))
                go_ret
                exact ⟨rfl, by repeat (first | exact Below.refl _ _ | apply below_alloc)⟩
              · have z6 : lowB 65535 [n, o] = false := by simpa using hz6
                clear hz6
                have HR : Aside0 (chkB 22 a c v t n o = false) := ⟨by have hlw := low_two n o; simp_all [chkB]⟩
                rw [HR.out]
                go_enter Try.func29, Try.ntmps29
                go_wp2_with (first | (go_at_call 49; refine (within_c _ _ _ _).mono ?_; rintro e w' ⟨rfl, rfl⟩) | (go_at_call 50; refine (span_c _ _ _).mono ?_; rintro e w' ⟨rfl, rfl⟩) | (go_at_call 51; refine (some_c A cc v _ _ _ _ ?hv).mono ?_; (case hv => (with_reducible repeat (first | refine Kd.C_alloc ?_ _ | refine Kd.C_drewN ?_ _ | refine Kd.C_drew ?_)); exact HV.out); rintro e w' ⟨rfl, rfl⟩) | (go_at_call 52; refine (all_c _ _ [n, o] _ _ ?hv).mono ?_; (case hv => exact row_C (xs := [n, o]) (new_blk (by simp)) (by simp)); rintro e w' ⟨rfl, rfl⟩))
                go_ret
                exact ⟨rfl, by repeat (first | exact Below.refl _ _ | apply below_alloc)⟩
            · have z5 : spB a 1 = false := by simpa using hz5
              clear hz5
              have HR : Aside0 (chkB 22 a c v t n o = false) := ⟨by have hlw := low_two n o; simp_all [chkB]⟩
              rw [HR.out]
              go_enter Try.func29, Try.ntmps29
              go_wp2_with (first | (go_at_call 49; refine (within_c _ _ _ _).mono ?_; rintro e w' ⟨rfl, rfl⟩) | (go_at_call 50; refine (span_c _ _ _).mono ?_; rintro e w' ⟨rfl, rfl⟩) | (go_at_call 51; refine (some_c A cc v _ _ _ _ ?hv).mono ?_; (case hv => (with_reducible repeat (first | refine Kd.C_alloc ?_ _ | refine Kd.C_drewN ?_ _ | refine Kd.C_drew ?_)); exact HV.out); rintro e w' ⟨rfl, rfl⟩) | (go_at_call 52; refine (all_c _ _ [n, o] _ _ ?hv).mono ?_; (case hv => exact row_C (xs := [n, o]) (new_blk (by simp)) (by simp)); rintro e w' ⟨rfl, rfl⟩))
              go_ret
              exact ⟨rfl, by repeat (first | exact Below.refl _ _ | apply below_alloc)⟩
          · have z4 : (c == 0) = false := by simpa using hz4
            clear hz4
            have HR : Aside0 (chkB 22 a c v t n o = false) := ⟨by have hlw := low_two n o; simp_all [chkB]⟩
            rw [HR.out]
            go_enter Try.func29, Try.ntmps29
            go_wp2_with (first | (go_at_call 49; refine (within_c _ _ _ _).mono ?_; rintro e w' ⟨rfl, rfl⟩) | (go_at_call 50; refine (span_c _ _ _).mono ?_; rintro e w' ⟨rfl, rfl⟩) | (go_at_call 51; refine (some_c A cc v _ _ _ _ ?hv).mono ?_; (case hv => (with_reducible repeat (first | refine Kd.C_alloc ?_ _ | refine Kd.C_drewN ?_ _ | refine Kd.C_drew ?_)); exact HV.out); rintro e w' ⟨rfl, rfl⟩) | (go_at_call 52; refine (all_c _ _ [n, o] _ _ ?hv).mono ?_; (case hv => exact row_C (xs := [n, o]) (new_blk (by simp)) (by simp)); rintro e w' ⟨rfl, rfl⟩))
            go_ret
            exact ⟨rfl, by repeat (first | exact Below.refl _ _ | apply below_alloc)⟩
        · have z3 : ((v.length : Int) == 0) = false := by simpa using hz3
          clear hz3
          have HR : Aside0 (chkB 22 a c v t n o = false) := ⟨by have hlw := low_two n o; simp_all [chkB]⟩
          rw [HR.out]
          go_enter Try.func29, Try.ntmps29
          go_wp2_with (first | (go_at_call 49; refine (within_c _ _ _ _).mono ?_; rintro e w' ⟨rfl, rfl⟩) | (go_at_call 50; refine (span_c _ _ _).mono ?_; rintro e w' ⟨rfl, rfl⟩) | (go_at_call 51; refine (some_c A cc v _ _ _ _ ?hv).mono ?_; (case hv => (with_reducible repeat (first | refine Kd.C_alloc ?_ _ | refine Kd.C_drewN ?_ _ | refine Kd.C_drew ?_)); exact HV.out); rintro e w' ⟨rfl, rfl⟩) | (go_at_call 52; refine (all_c _ _ [n, o] _ _ ?hv).mono ?_; (case hv => exact row_C (xs := [n, o]) (new_blk (by simp)) (by simp)); rintro e w' ⟨rfl, rfl⟩))
          go_ret
          exact ⟨rfl, by repeat (first | exact Below.refl _ _ | apply below_alloc)⟩
      · have z2 : (o == 0) = false := by simpa using hz2
        clear hz2
        by_cases hz3 : ((v.length : Int) == 0) = true
        · have z3 : ((v.length : Int) == 0) = true := hz3; clear hz3
          by_cases hz4 : (c == 0) = true
          · have z4 : (c == 0) = true := hz4; clear hz4
            by_cases hz5 : spB a 1 = true
            · have z5 : spB a 1 = true := hz5; clear hz5
              by_cases hz6 : lowB 65535 [n, o] = true
              · have z6 : lowB 65535 [n, o] = true := hz6; clear hz6
                have HR : Aside0 (chkB 22 a c v t n o = true) := ⟨by have hlw := low_two n o; simp_all [chkB]⟩
                rw [HR.out]
                go_enter Try.func29, Try.ntmps29
                go_wp2_with (first | (go_at_call 49; refine (within_c _ _ _ _).mono ?_; rintro e w' ⟨rfl, rfl⟩) | (go_at_call 50; refine (span_c _ _ _).mono ?_; rintro e w' ⟨rfl, rfl⟩) | (go_at_call 51; refine (some_c A cc v _ _ _ _ ?hv).mono ?_; (case hv => (with_reducible repeat (first | refine Kd.C_alloc ?_ _ | refine Kd.C_drewN ?_ _ | refine Kd.C_drew ?_)); exact HV.out); rintro e w' ⟨rfl, rfl⟩) | (go_at_call 52; refine (all_c _ _ [n, o] _ _ ?hv).mono ?_; (case hv => exact row_C (xs := [n, o]) (new_blk (by simp)) (by simp)); rintro e w' ⟨rfl, rfl⟩))
                go_ret
                exact ⟨rfl, by repeat (first | exact Below.refl _ _ | apply below_alloc)⟩
              · have z6 : lowB 65535 [n, o] = false := by simpa using hz6
                clear hz6
                have HR : Aside0 (chkB 22 a c v t n o = false) := ⟨by have hlw := low_two n o; simp_all [chkB]⟩
                rw [HR.out]
                go_enter Try.func29, Try.ntmps29
                go_wp2_with (first | (go_at_call 49; refine (within_c _ _ _ _).mono ?_; rintro e w' ⟨rfl, rfl⟩) | (go_at_call 50; refine (span_c _ _ _).mono ?_; rintro e w' ⟨rfl, rfl⟩) | (go_at_call 51; refine (some_c A cc v _ _ _ _ ?hv).mono ?_; (case hv => (with_reducible repeat (first | refine Kd.C_alloc ?_ _ | refine Kd.C_drewN ?_ _ | refine Kd.C_drew ?_)); exact HV.out); rintro e w' ⟨rfl, rfl⟩) | (go_at_call 52; refine (all_c _ _ [n, o] _ _ ?hv).mono ?_; (case hv => exact row_C (xs := [n, o]) (new_blk (by simp)) (by simp)); rintro e w' ⟨rfl, rfl⟩))
                go_ret
                exact ⟨rfl, by repeat (first | exact Below.refl _ _ | apply below_alloc)⟩
            · have z5 : spB a 1 = false := by simpa using hz5
              clear hz5
              have HR : Aside0 (chkB 22 a c v t n o = false) := ⟨by have hlw := low_two n o; simp_all [chkB]⟩
              rw [HR.out]
              go_enter Try.func29, Try.ntmps29
              go_wp2_with (first | (go_at_call 49; refine (within_c _ _ _ _).mono ?_; rintro e w' ⟨rfl, rfl⟩) | (go_at_call 50; refine (span_c _ _ _).mono ?_; rintro e w' ⟨rfl, rfl⟩) | (go_at_call 51; refine (some_c A cc v _ _ _ _ ?hv).mono ?_; (case hv => (with_reducible repeat (first | refine Kd.C_alloc ?_ _ | refine Kd.C_drewN ?_ _ | refine Kd.C_drew ?_)); exact HV.out); rintro e w' ⟨rfl, rfl⟩) | (go_at_call 52; refine (all_c _ _ [n, o] _ _ ?hv).mono ?_; (case hv => exact row_C (xs := [n, o]) (new_blk (by simp)) (by simp)); rintro e w' ⟨rfl, rfl⟩))
              go_ret
              exact ⟨rfl, by repeat (first | exact Below.refl _ _ | apply below_alloc)⟩
          · have z4 : (c == 0) = false := by simpa using hz4
            clear hz4
            have HR : Aside0 (chkB 22 a c v t n o = false) := ⟨by have hlw := low_two n o; simp_all [chkB]⟩
            rw [HR.out]
            go_enter Try.func29, Try.ntmps29
            go_wp2_with (first | (go_at_call 49; refine (within_c _ _ _ _).mono ?_; rintro e w' ⟨rfl, rfl⟩) | (go_at_call 50; refine (span_c _ _ _).mono ?_; rintro e w' ⟨rfl, rfl⟩) | (go_at_call 51; refine (some_c A cc v _ _ _ _ ?hv).mono ?_; (case hv => (with_reducible repeat (first | refine Kd.C_alloc ?_ _ | refine Kd.C_drewN ?_ _ | refine Kd.C_drew ?_)); exact HV.out); rintro e w' ⟨rfl, rfl⟩) | (go_at_call 52; refine (all_c _ _ [n, o] _ _ ?hv).mono ?_; (case hv => exact row_C (xs := [n, o]) (new_blk (by simp)) (by simp)); rintro e w' ⟨rfl, rfl⟩))
            go_ret
            exact ⟨rfl, by repeat (first | exact Below.refl _ _ | apply below_alloc)⟩
        · have z3 : ((v.length : Int) == 0) = false := by simpa using hz3
          clear hz3
          have HR : Aside0 (chkB 22 a c v t n o = false) := ⟨by have hlw := low_two n o; simp_all [chkB]⟩
          rw [HR.out]
          go_enter Try.func29, Try.ntmps29
          go_wp2_with (first | (go_at_call 49; refine (within_c _ _ _ _).mono ?_; rintro e w' ⟨rfl, rfl⟩) | (go_at_call 50; refine (span_c _ _ _).mono ?_; rintro e w' ⟨rfl, rfl⟩) | (go_at_call 51; refine (some_c A cc v _ _ _ _ ?hv).mono ?_; (case hv => (with_reducible repeat (first | refine Kd.C_alloc ?_ _ | refine Kd.C_drewN ?_ _ | refine Kd.C_drew ?_)); exact HV.out); rintro e w' ⟨rfl, rfl⟩) | (go_at_call 52; refine (all_c _ _ [n, o] _ _ ?hv).mono ?_; (case hv => exact row_C (xs := [n, o]) (new_blk (by simp)) (by simp)); rintro e w' ⟨rfl, rfl⟩))
          go_ret
          exact ⟨rfl, by repeat (first | exact Below.refl _ _ | apply below_alloc)⟩
    · have z1 : (n == 0) = false := by simpa using hz1
      clear hz1
      by_cases hz2 : ((v.length : Int) == 0) = true
      · have z2 : ((v.length : Int) == 0) = true := hz2; clear hz2
        by_cases hz3 : (c == 0) = true
        · have z3 : (c == 0) = true := hz3; clear hz3
          by_cases hz4 : spB a 1 = true
          · have z4 : spB a 1 = true := hz4; clear hz4
            by_cases hz5 : lowB 65535 [n, o] = true
            · have z5 : lowB 65535 [n, o] = true := hz5; clear hz5
              have HR : Aside0 (chkB 22 a c v t n o = true) := ⟨by have hlw := low_two n o; simp_all [chkB]⟩
              rw [HR.out]
              go_enter Try.func29, Try.ntmps29
              go_wp2_with (first | (go_at_call 49; refine (within_c _ _ _ _).mono ?_; rintro e w' ⟨rfl, rfl⟩) | (go_at_call 50; refine (span_c _ _ _).mono ?_; rintro e w' ⟨rfl, rfl⟩) | (go_at_call 51; refine (some_c A cc v _ _ _ _ ?hv).mono ?_; (case hv => (with_reducible repeat (first | refine Kd.C_alloc ?_ _ | refine Kd.C_drewN ?_ _ | refine Kd.C_drew ?_)); exact HV.out); rintro e w' ⟨rfl, rfl⟩) | (go_at_call 52; refine (all_c _ _ [n, o] _ _ ?hv).mono ?_; (case hv => exact row_C (xs := [n, o]) (new_blk (by simp)) (by simp)); rintro e w' ⟨rfl, rfl⟩))
              go_ret
              exact ⟨rfl, by repeat (first | exact Below.refl _ _ | apply below_alloc)⟩
            · have z5 : lowB 65535 [n, o] = false := by simpa using hz5
              clear hz5
              have HR : Aside0 (chkB 22 a c v t n o = false) := ⟨by have hlw := low_two n o; simp_all [chkB]⟩
              rw [HR.out]
              go_enter Try.func29, Try.ntmps29
              go_wp2_with (first | (go_at_call 49; refine (within_c _ _ _ _).mono ?_; rintro e w' ⟨rfl, rfl⟩) | (go_at_call 50; refine (span_c _ _ _).mono ?_; rintro e w' ⟨rfl, rfl⟩) | (go_at_call 51; refine (some_c A cc v _ _ _ _ ?hv).mono ?_; (case hv => (with_reducible repeat (first | refine Kd.C_alloc ?_ _ | refine Kd.C_drewN ?_ _ | refine Kd.C_drew ?_)); exact HV.out); rintro e w' ⟨rfl, rfl⟩) | (go_at_call 52; refine (all_c _ _ [n, o] _ _ ?hv).mono ?_; (case hv => exact row_C (xs := [n, o]) (new_blk (by simp)) (by simp)); rintro e w' ⟨rfl, rfl⟩))
              go_ret
              exact ⟨rfl, by repeat (first | exact Below.refl _ _ | apply below_alloc)⟩
          · have z4 : spB a 1 = false := by simpa using hz4
            clear hz4
            have HR : Aside0 (chkB 22 a c v t n o = false) := ⟨by have hlw := low_two n o; simp_all [chkB]⟩
            rw [HR.out]
            go_enter Try.func29, Try.ntmps29
            go_wp2_with (first | (go_at_call 49; refine (within_c _ _ _ _).mono ?_; rintro e w' ⟨rfl, rfl⟩) | (go_at_call 50; refine (span_c _ _ _).mono ?_; rintro e w' ⟨rfl, rfl⟩) | (go_at_call 51; refine (some_c A cc v _ _ _ _ ?hv).mono ?_; (case hv => (with_reducible repeat (first | refine Kd.C_alloc ?_ _ | refine Kd.C_drewN ?_ _ | refine Kd.C_drew ?_)); exact HV.out); rintro e w' ⟨rfl, rfl⟩) | (go_at_call 52; refine (all_c _ _ [n, o] _ _ ?hv).mono ?_; (case hv => exact row_C (xs := [n, o]) (new_blk (by simp)) (by simp)); rintro e w' ⟨rfl, rfl⟩))
            go_ret
            exact ⟨rfl, by repeat (first | exact Below.refl _ _ | apply below_alloc)⟩
        · have z3 : (c == 0) = false := by simpa using hz3
          clear hz3
          have HR : Aside0 (chkB 22 a c v t n o = false) := ⟨by have hlw := low_two n o; simp_all [chkB]⟩
          rw [HR.out]
          go_enter Try.func29, Try.ntmps29
          go_wp2_with (first | (go_at_call 49; refine (within_c _ _ _ _).mono ?_; rintro e w' ⟨rfl, rfl⟩) | (go_at_call 50; refine (span_c _ _ _).mono ?_; rintro e w' ⟨rfl, rfl⟩) | (go_at_call 51; refine (some_c A cc v _ _ _ _ ?hv).mono ?_; (case hv => (with_reducible repeat (first | refine Kd.C_alloc ?_ _ | refine Kd.C_drewN ?_ _ | refine Kd.C_drew ?_)); exact HV.out); rintro e w' ⟨rfl, rfl⟩) | (go_at_call 52; refine (all_c _ _ [n, o] _ _ ?hv).mono ?_; (case hv => exact row_C (xs := [n, o]) (new_blk (by simp)) (by simp)); rintro e w' ⟨rfl, rfl⟩))
          go_ret
          exact ⟨rfl, by repeat (first | exact Below.refl _ _ | apply below_alloc)⟩
      · have z2 : ((v.length : Int) == 0) = false := by simpa using hz2
        clear hz2
        have HR : Aside0 (chkB 22 a c v t n o = false) := ⟨by have hlw := low_two n o; simp_all [chkB]⟩
        rw [HR.out]
        go_enter Try.func29, Try.ntmps29
        go_wp2_with (first | (go_at_call 49; refine (within_c _ _ _ _).mono ?_; rintro e w' ⟨rfl, rfl⟩) | (go_at_call 50; refine (span_c _ _ _).mono ?_; rintro e w' ⟨rfl, rfl⟩) | (go_at_call 51; refine (some_c A cc v _ _ _ _ ?hv).mono ?_; (case hv => (with_reducible repeat (first | refine Kd.C_alloc ?_ _ | refine Kd.C_drewN ?_ _ | refine Kd.C_drew ?_)); exact HV.out); rintro e w' ⟨rfl, rfl⟩) | (go_at_call 52; refine (all_c _ _ [n, o] _ _ ?hv).mono ?_; (case hv => exact row_C (xs := [n, o]) (new_blk (by simp)) (by simp)); rintro e w' ⟨rfl, rfl⟩))
        go_ret
        exact ⟨rfl, by repeat (first | exact Below.refl _ _ | apply below_alloc)⟩
  · have z0 : (t == 0) = false := by simpa using hz0
    clear hz0
    by_cases hz1 : ((v.length : Int) == 0) = true
    · have z1 : ((v.length : Int) == 0) = true := hz1; clear hz1
      have HR : Aside0 (chkB 22 a c v t n o = false) := ⟨by have hlw := low_two n o; simp_all [chkB]⟩
      rw [HR.out]
      go_enter Try.func29, Try.ntmps29
      go_wp2_with (first | (go_at_call 49; refine (within_c _ _ _ _).mono ?_; rintro e w' ⟨rfl, rfl⟩) | (go_at_call 50; refine (span_c _ _ _).mono ?_; rintro e w' ⟨rfl, rfl⟩) | (go_at_call 51; refine (some_c A cc v _ _ _ _ ?hv).mono ?_; (case hv => (with_reducible repeat (first | refine Kd.C_alloc ?_ _ | refine Kd.C_drewN ?_ _ | refine Kd.C_drew ?_)); exact HV.out); rintro e w' ⟨rfl, rfl⟩) | (go_at_call 52; refine (all_c _ _ [n, o] _ _ ?hv).mono ?_; (case hv => exact row_C (xs := [n, o]) (new_blk (by simp)) (by simp)); rintro e w' ⟨rfl, rfl⟩))
      go_ret
      exact ⟨rfl, by repeat (first | exact Below.refl _ _ | apply below_alloc)⟩
    · have z1 : ((v.length : Int) == 0) = false := by simpa using hz1
      clear hz1
      have HR : Aside0 (chkB 22 a c v t n o = false) := ⟨by have hlw := low_two n o; simp_all [chkB]⟩
      rw [HR.out]
      go_enter Try.func29, Try.ntmps29
      go_wp2_with (first | (go_at_call 49; refine (within_c _ _ _ _).mono ?_; rintro e w' ⟨rfl, rfl⟩) | (go_at_call 50; refine (span_c _ _ _).mono ?_; rintro e w' ⟨rfl, rfl⟩) | (go_at_call 51; refine (some_c A cc v _ _ _ _ ?hv).mono ?_; (case hv => (with_reducible repeat (first | refine Kd.C_alloc ?_ _ | refine Kd.C_drewN ?_ _ | refine Kd.C_drew ?_)); exact HV.out); rintro e w' ⟨rfl, rfl⟩) | (go_at_call 52; refine (all_c _ _ [n, o] _ _ ?hv).mono ?_; (case hv => exact row_C (xs := [n, o]) (new_blk (by simp)) (by simp)); rintro e w' ⟨rfl, rfl⟩))
      go_ret
      exact ⟨rfl, by repeat (first | exact Below.refl _ _ | apply below_alloc)⟩
end Go.Proofs.Ytocicifgglkaeaa.Chk
end

section
namespace Go.Proofs.Ytocicifgglkaeaa.Chk
open Go.RowKit Go.Proofs.YtocicifgglkaeaaW.PrintWords Go.Proofs.YtocicifgglkaeaaW.PrintLast Go.Proofs.YtocicifgglkaeaaW.PrintMore Go.Proofs.Ytocicifgglkaeaa.Core Go.Proofs.Ytocicifgglkaeaa.Wk
set_option linter.unusedVariables false
set_option linter.unusedSimpArgs false
set_option maxHeartbeats 4000000 in
set_option maxRecDepth 100000 in
theorem chk_23 (a c : Int) (A : Option Addr) (cc : Nat) (v : List Int) (t n o : Int) (w : World) (hV : Kd.C (Kd.int .i64) w A v.length v) : Calls Try.prog 29 #[.agg #[.int .i64 23, .int .i64 a, .int .i64 c, .slice A v.length cc, .int .i64 t, .int .i64 n, .int .i64 o]] w fun e w' => e = .returned (.int .i64 (if chkB 23 a c v t n o then 0 else 1)) ∧ Below w.heap.size w w' := by
  have HV := Aside0.mk hV; clear hV
  by_cases hz0 : (t == 0) = true
  · have z0 : (t == 0) = true := hz0; clear hz0
    by_cases hz1 : (n == 0) = true
    · have z1 : (n == 0) = true := hz1; clear hz1
      by_cases hz2 : (o == 0) = true
      · have z2 : (o == 0) = true := hz2; clear hz2
        by_cases hz3 : wB 1 125 c = true
        · have z3 : wB 1 125 c = true := hz3; clear hz3
          by_cases hz4 : spB a c = true
          · have z4 : spB a c = true := hz4; clear hz4
            by_cases hz5 : smB 1 121 65535 v = true
            · have z5 : smB 1 121 65535 v = true := hz5; clear hz5; have pz5 := smB_len z5
              by_cases hz6 : spB t v.length = true
              · have z6 : spB t v.length = true := hz6; clear hz6
                have HR : Aside0 (chkB 23 a c v t n o = true) := ⟨by simp [chkB, z0, z1, z2, z3, z4, z5, z6]⟩
                rw [HR.out]
                go_enter Try.func29, Try.ntmps29
                go_wp2_with (first | (go_at_call 49; refine (within_c _ _ _ _).mono ?_; rintro e w' ⟨rfl, rfl⟩) | (go_at_call 50; refine (span_c _ _ _).mono ?_; rintro e w' ⟨rfl, rfl⟩) | (go_at_call 51; refine (some_c A cc v _ _ _ _ ?hv).mono ?_; (case hv => (with_reducible repeat (first | refine Kd.C_alloc ?_ _ | refine Kd.C_drewN ?_ _ | refine Kd.C_drew ?_)); exact HV.out); rintro e w' ⟨rfl, rfl⟩) | (go_at_call 52; refine (all_c _ _ [n, o] _ _ ?hv).mono ?_; (case hv => exact row_C (xs := [n, o]) (new_blk (by simp)) (by simp)); rintro e w' ⟨rfl, rfl⟩))
                go_ret
                exact ⟨rfl, by repeat (first | exact Below.refl _ _ | apply below_alloc)⟩
              · have z6 : spB t v.length = false := by simpa using hz6
                clear hz6
                have HR : Aside0 (chkB 23 a c v t n o = false) := ⟨by simp [chkB, z0, z1, z2, z3, z4, z5, z6]⟩
                rw [HR.out]
                go_enter Try.func29, Try.ntmps29
                go_wp2_with (first | (go_at_call 49; refine (within_c _ _ _ _).mono ?_; rintro e w' ⟨rfl, rfl⟩) | (go_at_call 50; refine (span_c _ _ _).mono ?_; rintro e w' ⟨rfl, rfl⟩) | (go_at_call 51; refine (some_c A cc v _ _ _ _ ?hv).mono ?_; (case hv => (with_reducible repeat (first | refine Kd.C_alloc ?_ _ | refine Kd.C_drewN ?_ _ | refine Kd.C_drew ?_)); exact HV.out); rintro e w' ⟨rfl, rfl⟩) | (go_at_call 52; refine (all_c _ _ [n, o] _ _ ?hv).mono ?_; (case hv => exact row_C (xs := [n, o]) (new_blk (by simp)) (by simp)); rintro e w' ⟨rfl, rfl⟩))
                go_ret
                exact ⟨rfl, by repeat (first | exact Below.refl _ _ | apply below_alloc)⟩
            · have z5 : smB 1 121 65535 v = false := by simpa using hz5
              clear hz5
              have HR : Aside0 (chkB 23 a c v t n o = false) := ⟨by simp [chkB, z0, z1, z2, z3, z4, z5]⟩
              rw [HR.out]
              go_enter Try.func29, Try.ntmps29
              go_wp2_with (first | (go_at_call 49; refine (within_c _ _ _ _).mono ?_; rintro e w' ⟨rfl, rfl⟩) | (go_at_call 50; refine (span_c _ _ _).mono ?_; rintro e w' ⟨rfl, rfl⟩) | (go_at_call 51; refine (some_c A cc v _ _ _ _ ?hv).mono ?_; (case hv => (with_reducible repeat (first | refine Kd.C_alloc ?_ _ | refine Kd.C_drewN ?_ _ | refine Kd.C_drew ?_)); exact HV.out); rintro e w' ⟨rfl, rfl⟩) | (go_at_call 52; refine (all_c _ _ [n, o] _ _ ?hv).mono ?_; (case hv => exact row_C (xs := [n, o]) (new_blk (by simp)) (by simp)); rintro e w' ⟨rfl, rfl⟩))
              go_ret
              exact ⟨rfl, by repeat (first | exact Below.refl _ _ | apply below_alloc)⟩
          · have z4 : spB a c = false := by simpa using hz4
            clear hz4
            have HR : Aside0 (chkB 23 a c v t n o = false) := ⟨by simp [chkB, z0, z1, z2, z3, z4]⟩
            rw [HR.out]
            go_enter Try.func29, Try.ntmps29
            go_wp2_with (first | (go_at_call 49; refine (within_c _ _ _ _).mono ?_; rintro e w' ⟨rfl, rfl⟩) | (go_at_call 50; refine (span_c _ _ _).mono ?_; rintro e w' ⟨rfl, rfl⟩) | (go_at_call 51; refine (some_c A cc v _ _ _ _ ?hv).mono ?_; (case hv => (with_reducible repeat (first | refine Kd.C_alloc ?_ _ | refine Kd.C_drewN ?_ _ | refine Kd.C_drew ?_)); exact HV.out); rintro e w' ⟨rfl, rfl⟩) | (go_at_call 52; refine (all_c _ _ [n, o] _ _ ?hv).mono ?_; (case hv => exact row_C (xs := [n, o]) (new_blk (by simp)) (by simp)); rintro e w' ⟨rfl, rfl⟩))
            go_ret
            exact ⟨rfl, by repeat (first | exact Below.refl _ _ | apply below_alloc)⟩
        · have z3 : wB 1 125 c = false := by simpa using hz3
          clear hz3
          have HR : Aside0 (chkB 23 a c v t n o = false) := ⟨by simp [chkB, z0, z1, z2, z3]⟩
          rw [HR.out]
          go_enter Try.func29, Try.ntmps29
          go_wp2_with (first | (go_at_call 49; refine (within_c _ _ _ _).mono ?_; rintro e w' ⟨rfl, rfl⟩) | (go_at_call 50; refine (span_c _ _ _).mono ?_; rintro e w' ⟨rfl, rfl⟩) | (go_at_call 51; refine (some_c A cc v _ _ _ _ ?hv).mono ?_; (case hv => (with_reducible repeat (first | refine Kd.C_alloc ?_ _ | refine Kd.C_drewN ?_ _ | refine Kd.C_drew ?_)); exact HV.out); rintro e w' ⟨rfl, rfl⟩) | (go_at_call 52; refine (all_c _ _ [n, o] _ _ ?hv).mono ?_; (case hv => exact row_C (xs := [n, o]) (new_blk (by simp)) (by simp)); rintro e w' ⟨rfl, rfl⟩))
          go_ret
          exact ⟨rfl, by repeat (first | exact Below.refl _ _ | apply below_alloc)⟩
      · have z2 : (o == 0) = false := by simpa using hz2
        clear hz2
        have HR : Aside0 (chkB 23 a c v t n o = false) := ⟨by simp [chkB, z0, z1, z2]⟩
        rw [HR.out]
        go_enter Try.func29, Try.ntmps29
        go_wp2_with (first | (go_at_call 49; refine (within_c _ _ _ _).mono ?_; rintro e w' ⟨rfl, rfl⟩) | (go_at_call 50; refine (span_c _ _ _).mono ?_; rintro e w' ⟨rfl, rfl⟩) | (go_at_call 51; refine (some_c A cc v _ _ _ _ ?hv).mono ?_; (case hv => (with_reducible repeat (first | refine Kd.C_alloc ?_ _ | refine Kd.C_drewN ?_ _ | refine Kd.C_drew ?_)); exact HV.out); rintro e w' ⟨rfl, rfl⟩) | (go_at_call 52; refine (all_c _ _ [n, o] _ _ ?hv).mono ?_; (case hv => exact row_C (xs := [n, o]) (new_blk (by simp)) (by simp)); rintro e w' ⟨rfl, rfl⟩))
        go_ret
        exact ⟨rfl, by repeat (first | exact Below.refl _ _ | apply below_alloc)⟩
    · have z1 : (n == 0) = false := by simpa using hz1
      clear hz1
      have HR : Aside0 (chkB 23 a c v t n o = false) := ⟨by simp [chkB, z0, z1]⟩
      rw [HR.out]
      go_enter Try.func29, Try.ntmps29
      go_wp2_with (first | (go_at_call 49; refine (within_c _ _ _ _).mono ?_; rintro e w' ⟨rfl, rfl⟩) | (go_at_call 50; refine (span_c _ _ _).mono ?_; rintro e w' ⟨rfl, rfl⟩) | (go_at_call 51; refine (some_c A cc v _ _ _ _ ?hv).mono ?_; (case hv => (with_reducible repeat (first | refine Kd.C_alloc ?_ _ | refine Kd.C_drewN ?_ _ | refine Kd.C_drew ?_)); exact HV.out); rintro e w' ⟨rfl, rfl⟩) | (go_at_call 52; refine (all_c _ _ [n, o] _ _ ?hv).mono ?_; (case hv => exact row_C (xs := [n, o]) (new_blk (by simp)) (by simp)); rintro e w' ⟨rfl, rfl⟩))
      go_ret
      exact ⟨rfl, by repeat (first | exact Below.refl _ _ | apply below_alloc)⟩
  · have z0 : (t == 0) = false := by simpa using hz0
    clear hz0
    by_cases hz1 : (n == 0) = true
    · have z1 : (n == 0) = true := hz1; clear hz1
      by_cases hz2 : (o == 0) = true
      · have z2 : (o == 0) = true := hz2; clear hz2
        by_cases hz3 : wB 1 125 c = true
        · have z3 : wB 1 125 c = true := hz3; clear hz3
          by_cases hz4 : spB a c = true
          · have z4 : spB a c = true := hz4; clear hz4
            by_cases hz5 : smB 1 121 65535 v = true
            · have z5 : smB 1 121 65535 v = true := hz5; clear hz5; have pz5 := smB_len z5
              by_cases hz6 : spB t v.length = true
              · have z6 : spB t v.length = true := hz6; clear hz6
                have HR : Aside0 (chkB 23 a c v t n o = true) := ⟨by simp [chkB, z0, z1, z2, z3, z4, z5, z6]⟩
                rw [HR.out]
                go_enter Try.func29, Try.ntmps29
                go_wp2_with (first | (go_at_call 49; refine (within_c _ _ _ _).mono ?_; rintro e w' ⟨rfl, rfl⟩) | (go_at_call 50; refine (span_c _ _ _).mono ?_; rintro e w' ⟨rfl, rfl⟩) | (go_at_call 51; refine (some_c A cc v _ _ _ _ ?hv).mono ?_; (case hv => (with_reducible repeat (first | refine Kd.C_alloc ?_ _ | refine Kd.C_drewN ?_ _ | refine Kd.C_drew ?_)); exact HV.out); rintro e w' ⟨rfl, rfl⟩) | (go_at_call 52; refine (all_c _ _ [n, o] _ _ ?hv).mono ?_; (case hv => exact row_C (xs := [n, o]) (new_blk (by simp)) (by simp)); rintro e w' ⟨rfl, rfl⟩))
                go_ret
                exact ⟨rfl, by repeat (first | exact Below.refl _ _ | apply below_alloc)⟩
              · have z6 : spB t v.length = false := by simpa using hz6
                clear hz6
                have HR : Aside0 (chkB 23 a c v t n o = false) := ⟨by simp [chkB, z0, z1, z2, z3, z4, z5, z6]⟩
                rw [HR.out]
                go_enter Try.func29, Try.ntmps29
                go_wp2_with (first | (go_at_call 49; refine (within_c _ _ _ _).mono ?_; rintro e w' ⟨rfl, rfl⟩) | (go_at_call 50; refine (span_c _ _ _).mono ?_; rintro e w' ⟨rfl, rfl⟩) | (go_at_call 51; refine (some_c A cc v _ _ _ _ ?hv).mono ?_; (case hv => (with_reducible repeat (first | refine Kd.C_alloc ?_ _ | refine Kd.C_drewN ?_ _ | refine Kd.C_drew ?_)); exact HV.out); rintro e w' ⟨rfl, rfl⟩) | (go_at_call 52; refine (all_c _ _ [n, o] _ _ ?hv).mono ?_; (case hv => exact row_C (xs := [n, o]) (new_blk (by simp)) (by simp)); rintro e w' ⟨rfl, rfl⟩))
                go_ret
                exact ⟨rfl, by repeat (first | exact Below.refl _ _ | apply below_alloc)⟩
            · have z5 : smB 1 121 65535 v = false := by simpa using hz5
              clear hz5
              have HR : Aside0 (chkB 23 a c v t n o = false) := ⟨by simp [chkB, z0, z1, z2, z3, z4, z5]⟩
              rw [HR.out]
              go_enter Try.func29, Try.ntmps29
              go_wp2_with (first | (go_at_call 49; refine (within_c _ _ _ _).mono ?_; rintro e w' ⟨rfl, rfl⟩) | (go_at_call 50; refine (span_c _ _ _).mono ?_; rintro e w' ⟨rfl, rfl⟩) | (go_at_call 51; refine (some_c A cc v _ _ _ _ ?hv).mono ?_; (case hv => (with_reducible repeat (first | refine Kd.C_alloc ?_ _ | refine Kd.C_drewN ?_ _ | refine Kd.C_drew ?_)); exact HV.out); rintro e w' ⟨rfl, rfl⟩) | (go_at_call 52; refine (all_c _ _ [n, o] _ _ ?hv).mono ?_; (case hv => exact row_C (xs := [n, o]) (new_blk (by simp)) (by simp)); rintro e w' ⟨rfl, rfl⟩))
              go_ret
              exact ⟨rfl, by repeat (first | exact Below.refl _ _ | apply below_alloc)⟩
          · have z4 : spB a c = false := by simpa using hz4
            clear hz4
            have HR : Aside0 (chkB 23 a c v t n o = false) := ⟨by simp [chkB, z0, z1, z2, z3, z4]⟩
            rw [HR.out]
            go_enter Try.func29, Try.ntmps29
            go_wp2_with (first | (go_at_call 49; refine (within_c _ _ _ _).mono ?_; rintro e w' ⟨rfl, rfl⟩) | (go_at_call 50; refine (span_c _ _ _).mono ?_; rintro e w' ⟨rfl, rfl⟩) | (go_at_call 51; refine (some_c A cc v _ _ _ _ ?hv).mono ?_; (case hv => (with_reducible repeat (first | refine Kd.C_alloc ?_ _ | refine Kd.C_drewN ?_ _ | refine Kd.C_drew ?_)); exact HV.out); rintro e w' ⟨rfl, rfl⟩) | (go_at_call 52; refine (all_c _ _ [n, o] _ _ ?hv).mono ?_; (case hv => exact row_C (xs := [n, o]) (new_blk (by simp)) (by simp)); rintro e w' ⟨rfl, rfl⟩))
            go_ret
            exact ⟨rfl, by repeat (first | exact Below.refl _ _ | apply below_alloc)⟩
        · have z3 : wB 1 125 c = false := by simpa using hz3
          clear hz3
          have HR : Aside0 (chkB 23 a c v t n o = false) := ⟨by simp [chkB, z0, z1, z2, z3]⟩
          rw [HR.out]
          go_enter Try.func29, Try.ntmps29
          go_wp2_with (first | (go_at_call 49; refine (within_c _ _ _ _).mono ?_; rintro e w' ⟨rfl, rfl⟩) | (go_at_call 50; refine (span_c _ _ _).mono ?_; rintro e w' ⟨rfl, rfl⟩) | (go_at_call 51; refine (some_c A cc v _ _ _ _ ?hv).mono ?_; (case hv => (with_reducible repeat (first | refine Kd.C_alloc ?_ _ | refine Kd.C_drewN ?_ _ | refine Kd.C_drew ?_)); exact HV.out); rintro e w' ⟨rfl, rfl⟩) | (go_at_call 52; refine (all_c _ _ [n, o] _ _ ?hv).mono ?_; (case hv => exact row_C (xs := [n, o]) (new_blk (by simp)) (by simp)); rintro e w' ⟨rfl, rfl⟩))
          go_ret
          exact ⟨rfl, by repeat (first | exact Below.refl _ _ | apply below_alloc)⟩
      · have z2 : (o == 0) = false := by simpa using hz2
        clear hz2
        have HR : Aside0 (chkB 23 a c v t n o = false) := ⟨by simp [chkB, z0, z1, z2]⟩
        rw [HR.out]
        go_enter Try.func29, Try.ntmps29
        go_wp2_with (first | (go_at_call 49; refine (within_c _ _ _ _).mono ?_; rintro e w' ⟨rfl, rfl⟩) | (go_at_call 50; refine (span_c _ _ _).mono ?_; rintro e w' ⟨rfl, rfl⟩) | (go_at_call 51; refine (some_c A cc v _ _ _ _ ?hv).mono ?_; (case hv => (with_reducible repeat (first | refine Kd.C_alloc ?_ _ | refine Kd.C_drewN ?_ _ | refine Kd.C_drew ?_)); exact HV.out); rintro e w' ⟨rfl, rfl⟩) | (go_at_call 52; refine (all_c _ _ [n, o] _ _ ?hv).mono ?_; (case hv => exact row_C (xs := [n, o]) (new_blk (by simp)) (by simp)); rintro e w' ⟨rfl, rfl⟩))
        go_ret
        exact ⟨rfl, by repeat (first | exact Below.refl _ _ | apply below_alloc)⟩
    · have z1 : (n == 0) = false := by simpa using hz1
      clear hz1
      have HR : Aside0 (chkB 23 a c v t n o = false) := ⟨by simp [chkB, z0, z1]⟩
      rw [HR.out]
      go_enter Try.func29, Try.ntmps29
      go_wp2_with (first | (go_at_call 49; refine (within_c _ _ _ _).mono ?_; rintro e w' ⟨rfl, rfl⟩) | (go_at_call 50; refine (span_c _ _ _).mono ?_; rintro e w' ⟨rfl, rfl⟩) | (go_at_call 51; refine (some_c A cc v _ _ _ _ ?hv).mono ?_; (case hv => (with_reducible repeat (first | refine Kd.C_alloc ?_ _ | refine Kd.C_drewN ?_ _ | refine Kd.C_drew ?_)); exact HV.out); rintro e w' ⟨rfl, rfl⟩) | (go_at_call 52; refine (all_c _ _ [n, o] _ _ ?hv).mono ?_; (case hv => exact row_C (xs := [n, o]) (new_blk (by simp)) (by simp)); rintro e w' ⟨rfl, rfl⟩))
      go_ret
      exact ⟨rfl, by repeat (first | exact Below.refl _ _ | apply below_alloc)⟩
set_option maxHeartbeats 4000000 in
set_option maxRecDepth 100000 in
theorem chk_f (f a c : Int) (A : Option Addr) (cc : Nat) (v : List Int) (t n o : Int) (w : World) (hV : Kd.C (Kd.int .i64) w A v.length v) (hf : f ≠ 1 ∧ f ≠ 2 ∧ f ≠ 3 ∧ f ≠ 4 ∧ f ≠ 5 ∧ f ≠ 6 ∧ f ≠ 15 ∧ f ≠ 16 ∧ f ≠ 22 ∧ f ≠ 23) : Calls Try.prog 29 #[.agg #[.int .i64 f, .int .i64 a, .int .i64 c, .slice A v.length cc, .int .i64 t, .int .i64 n, .int .i64 o]] w fun e w' => e = .returned (.int .i64 (if chkB f a c v t n o then 0 else 1)) ∧ Below w.heap.size w w' := by
  have HV := Aside0.mk hV; clear hV
  obtain ⟨g1, g2, g3, g4, g5, g6, g7, g8, g9, g10⟩ := hf
  have HR : Aside0 (chkB f a c v t n o = false) := ⟨by unfold chkB; rw [if_neg (by omega), if_neg (by omega), if_neg g5, if_neg g6, if_neg g7, if_neg g8, if_neg g9, if_neg g10]⟩
  have y0 : (f == 1) = false := beq_eq_false_iff_ne.2 g1
  have y1 : (f == 2) = false := beq_eq_false_iff_ne.2 g2
  have y2 : (f == 3) = false := beq_eq_false_iff_ne.2 g3
  have y3 : (f == 4) = false := beq_eq_false_iff_ne.2 g4
  have y4 : (f == 5) = false := beq_eq_false_iff_ne.2 g5
  have y5 : (f == 6) = false := beq_eq_false_iff_ne.2 g6
  have y6 : (f == 15) = false := beq_eq_false_iff_ne.2 g7
  have y7 : (f == 16) = false := beq_eq_false_iff_ne.2 g8
  have y8 : (f == 22) = false := beq_eq_false_iff_ne.2 g9
  have y9 : (f == 23) = false := beq_eq_false_iff_ne.2 g10
  clear g1 g2 g3 g4 g5 g6 g7 g8 g9 g10
  rw [HR.out]
  by_cases hz0 : (t == 0) = true
  · have z0 : (t == 0) = true := hz0; clear hz0
    by_cases hz1 : (n == 0) = true
    · have z1 : (n == 0) = true := hz1; clear hz1
      by_cases hz2 : (o == 0) = true
      · have z2 : (o == 0) = true := hz2; clear hz2
        go_enter Try.func29, Try.ntmps29
        go_wp2_with (first | (go_at_call 49; refine (within_c _ _ _ _).mono ?_; rintro e w' ⟨rfl, rfl⟩) | (go_at_call 50; refine (span_c _ _ _).mono ?_; rintro e w' ⟨rfl, rfl⟩) | (go_at_call 51; refine (some_c A cc v _ _ _ _ ?hv).mono ?_; (case hv => (with_reducible repeat (first | refine Kd.C_alloc ?_ _ | refine Kd.C_drewN ?_ _ | refine Kd.C_drew ?_)); exact HV.out); rintro e w' ⟨rfl, rfl⟩) | (go_at_call 52; refine (all_c _ _ [n, o] _ _ ?hv).mono ?_; (case hv => exact row_C (xs := [n, o]) (new_blk (by simp)) (by simp)); rintro e w' ⟨rfl, rfl⟩))
        go_ret
        exact ⟨rfl, by repeat (first | exact Below.refl _ _ | apply below_alloc)⟩
      · have z2 : (o == 0) = false := by simpa using hz2
        clear hz2
        go_enter Try.func29, Try.ntmps29
        go_wp2_with (first | (go_at_call 49; refine (within_c _ _ _ _).mono ?_; rintro e w' ⟨rfl, rfl⟩) | (go_at_call 50; refine (span_c _ _ _).mono ?_; rintro e w' ⟨rfl, rfl⟩) | (go_at_call 51; refine (some_c A cc v _ _ _ _ ?hv).mono ?_; (case hv => (with_reducible repeat (first | refine Kd.C_alloc ?_ _ | refine Kd.C_drewN ?_ _ | refine Kd.C_drew ?_)); exact HV.out); rintro e w' ⟨rfl, rfl⟩) | (go_at_call 52; refine (all_c _ _ [n, o] _ _ ?hv).mono ?_; (case hv => exact row_C (xs := [n, o]) (new_blk (by simp)) (by simp)); rintro e w' ⟨rfl, rfl⟩))
        go_ret
        exact ⟨rfl, by repeat (first | exact Below.refl _ _ | apply below_alloc)⟩
    · have z1 : (n == 0) = false := by simpa using hz1
      clear hz1
      go_enter Try.func29, Try.ntmps29
      go_wp2_with (first | (go_at_call 49; refine (within_c _ _ _ _).mono ?_; rintro e w' ⟨rfl, rfl⟩) | (go_at_call 50; refine (span_c _ _ _).mono ?_; rintro e w' ⟨rfl, rfl⟩) | (go_at_call 51; refine (some_c A cc v _ _ _ _ ?hv).mono ?_; (case hv => (with_reducible repeat (first | refine Kd.C_alloc ?_ _ | refine Kd.C_drewN ?_ _ | refine Kd.C_drew ?_)); exact HV.out); rintro e w' ⟨rfl, rfl⟩) | (go_at_call 52; refine (all_c _ _ [n, o] _ _ ?hv).mono ?_; (case hv => exact row_C (xs := [n, o]) (new_blk (by simp)) (by simp)); rintro e w' ⟨rfl, rfl⟩))
      go_ret
      exact ⟨rfl, by repeat (first | exact Below.refl _ _ | apply below_alloc)⟩
  · have z0 : (t == 0) = false := by simpa using hz0
    clear hz0
    go_enter Try.func29, Try.ntmps29
    go_wp2_with (first | (go_at_call 49; refine (within_c _ _ _ _).mono ?_; rintro e w' ⟨rfl, rfl⟩) | (go_at_call 50; refine (span_c _ _ _).mono ?_; rintro e w' ⟨rfl, rfl⟩) | (go_at_call 51; refine (some_c A cc v _ _ _ _ ?hv).mono ?_; (case hv => (with_reducible repeat (first | refine Kd.C_alloc ?_ _ | refine Kd.C_drewN ?_ _ | refine Kd.C_drew ?_)); exact HV.out); rintro e w' ⟨rfl, rfl⟩) | (go_at_call 52; refine (all_c _ _ [n, o] _ _ ?hv).mono ?_; (case hv => exact row_C (xs := [n, o]) (new_blk (by simp)) (by simp)); rintro e w' ⟨rfl, rfl⟩))
    go_ret
    exact ⟨rfl, by repeat (first | exact Below.refl _ _ | apply below_alloc)⟩
end Go.Proofs.Ytocicifgglkaeaa.Chk
end

section
namespace Go.Proofs.Ytocicifgglkaeaa.Chk
open Go.RowKit Go.Proofs.YtocicifgglkaeaaW.PrintWords Go.Proofs.YtocicifgglkaeaaW.PrintLast Go.Proofs.YtocicifgglkaeaaW.PrintMore Go.Proofs.Ytocicifgglkaeaa.Core Go.Proofs.Ytocicifgglkaeaa.Wk
set_option linter.unusedVariables false
set_option linter.unusedSimpArgs false
theorem chk_c (f a c : Int) (A : Option Addr) (cc : Nat) (v : List Int) (t n o : Int) (w : World) (hV : Kd.C (Kd.int .i64) w A v.length v) : Calls Try.prog 29 #[.agg #[.int .i64 f, .int .i64 a, .int .i64 c, .slice A v.length cc, .int .i64 t, .int .i64 n, .int .i64 o]] w fun e w' => e = .returned (.int .i64 (if chkB f a c v t n o then 0 else 1)) ∧ Below w.heap.size w w' := by
  by_cases h0 : f = 1
  · subst h0; exact chk_1 a c A cc v t n o w hV
  by_cases h1 : f = 2
  · subst h1; exact chk_2 a c A cc v t n o w hV
  by_cases h2 : f = 3
  · subst h2; exact chk_3 a c A cc v t n o w hV
  by_cases h3 : f = 4
  · subst h3; exact chk_4 a c A cc v t n o w hV
  by_cases h4 : f = 5
  · subst h4; exact chk_5 a c A cc v t n o w hV
  by_cases h5 : f = 6
  · subst h5; exact chk_6 a c A cc v t n o w hV
  by_cases h6 : f = 15
  · subst h6; exact chk_15 a c A cc v t n o w hV
  by_cases h7 : f = 16
  · subst h7; exact chk_16 a c A cc v t n o w hV
  by_cases h8 : f = 22
  · subst h8; exact chk_22 a c A cc v t n o w hV
  by_cases h9 : f = 23
  · subst h9; exact chk_23 a c A cc v t n o w hV
  exact chk_f f a c A cc v t n o w hV ⟨h0, h1, h2, h3, h4, h5, h6, h7, h8, h9⟩
theorem chk_yes (f a c : Int) (A : Option Addr) (cc : Nat) (v : List Int) (t n o : Int) (w : World) (hV : Kd.C (Kd.int .i64) w A v.length v) {b : Bool} (hb : chkB f a c v t n o = b) {x : Int} (hx : (if b then 0 else 1) = x) : Calls Try.prog 29 #[.agg #[.int .i64 f, .int .i64 a, .int .i64 c, .slice A v.length cc, .int .i64 t, .int .i64 n, .int .i64 o]] w fun e w' => e = .returned (.int .i64 x) ∧ Below w.heap.size w w' := by
  have h := chk_c f a c A cc v t n o w hV
  rw [hb] at h
  rw [← hx]
  exact h
end Go.Proofs.Ytocicifgglkaeaa.Chk
end

section
namespace Go.Proofs.Ytocicifgglkaeaa.SlvA
open Go.RowKit Go.Proofs.YtocicifgglkaeaaW.PrintWords Go.Proofs.YtocicifgglkaeaaW.PrintLast Go.Proofs.YtocicifgglkaeaaW.PrintMore Go.Proofs.Ytocicifgglkaeaa.Core Go.Proofs.Ytocicifgglkaeaa.Wk Go.Proofs.Ytocicifgglkaeaa.Chk
set_option linter.unusedVariables false
set_option linter.unusedSimpArgs false
attribute [local go_sem] max2_int min2_int max_two min_two
theorem info3 : (Try.prog.info? 3).map (fun i => (i.zero, i.size, i.bytes)) = some (some (.int .i64 0), 1, 8) := by kernel_rfl
theorem one3 : (Try.prog.info? 3).map (·.size) = some 1 := by kernel_rfl
def sl (R : Nat → Nat) (X : Nat → List Int) (k : Nat) : Value := .slice (some ⟨R k, 0, none⟩) (X k).length (X k).length
structure IsSlv (T : TypeId) (W : World) (g : Nat) (R : Nat → Nat) (X : Nat → List Int) : Prop where
  blk : W.heap[g]? = some (.cells #[sl R X 0, sl R X 1, sl R X 2, sl R X 3] T (0, 0))
  row : ∀ k, k < 4 → W.heap[R k]? = some (.cells ((X k).map (Value.int .i64)).toArray 3 (0, 0))
  inj : ∀ i j, i < 4 → j < 4 → R i = R j → i = j
  ne : ∀ k, k < 4 → R k ≠ g
  len : ∀ k, k < 4 → (X k).length ≤ 65536
def Fp (g : Nat) (R : Nat → Nat) (k : Nat) : Prop := k = g ∨ ∃ i, i < 4 ∧ k = R i
def upd (X : Nat → List Int) (k : Nat) (l : List Int) : Nat → List Int := fun j => if j = k then l else X j
section
variable {T : TypeId} {W W' : World} {g : Nat} {R : Nat → Nat} {X : Nat → List Int} {F : Nat → Prop}
theorem IsSlv.ext (h : IsSlv T W g R X) (E : Ext F W W') (hF : ∀ k, Fp g R k → ¬ F k) : IsSlv T W' g R X :=
  ⟨Ext.blk E h.blk (hF g (.inl rfl)), fun k hk => Ext.blk E (h.row k hk) (hF _ (.inr ⟨k, hk, rfl⟩)), h.inj, h.ne, h.len⟩
theorem IsSlv.below (h : IsSlv T W g R X) (k : Below W.heap.size W W') : IsSlv T W' g R X := h.ext (Ext.none_ k) (fun _ _ e => e)
theorem IsSlv.lt (h : IsSlv T W g R X) : ∀ k, Fp g R k → k < W.heap.size := fun k hk => by
  rcases hk with e | ⟨i, hi, e⟩
  · rw [e]; exact blk_lt h.blk
  · rw [e]; exact blk_lt (h.row i hi)
theorem IsSlv.cell (h : IsSlv T W g R X) {k : Nat} (hk : k < 4) : W.cell? ⟨g, k, none⟩ = some (sl R X k) := by
  rw [blk_cell h.blk k]
  match k, hk with
  | 0, _ => rfl
  | 1, _ => rfl
  | 2, _ => rfl
  | 3, _ => rfl
theorem IsSlv.at_ (h : IsSlv T W g R X) {k i : Nat} (hk : k < 4) (hi : i < (X k).length) : W.cell? ⟨R k, i, none⟩ = some (.int .i64 ((X k).getD i 0)) := row_cell (h.row k hk) hi
theorem upd_len (X : Nat → List Int) (k : Nat) (l : List Int) (hl : l.length = (X k).length) (j : Nat) : (upd X k l j).length = (X j).length := by
  unfold upd; by_cases e : j = k
  · rw [if_pos e, hl, e]
  · rw [if_neg e]
theorem IsSlv.put (h : IsSlv T W g R X) {k : Nat} (hk : k < 4) {l : List Int} (hl : l.length = (X k).length) (E : Ext (fun b => b = R k) W W') (hb : W'.heap[R k]? = some (.cells (l.map (Value.int .i64)).toArray 3 (0, 0))) : IsSlv T W' g R (upd X k l) := by
  have hs : ∀ j, sl R (upd X k l) j = sl R X j := fun j => by unfold sl; rw [upd_len X k l hl j]
  refine ⟨by rw [hs, hs, hs, hs]; exact Ext.blk E h.blk (fun e => h.ne k hk e.symm), fun j hj => ?_, h.inj, h.ne, fun j hj => by rw [upd_len X k l hl j]; exact h.len j hj⟩
  by_cases e : j = k
  · subst e; unfold upd; rw [if_pos rfl]; exact hb
  · have : upd X k l j = X j := by unfold upd; rw [if_neg e]
    rw [this]; exact Ext.blk E (h.row j hj) (fun e2 => e (h.inj j k hj hk e2))
end
def has (X : Nat → List Int) (kind addr : Int) : Prop := 1 ≤ kind ∧ kind ≤ 4 ∧ 0 ≤ addr ∧ addr < (X (kind - 1).toNat).length
instance (X : Nat → List Int) (kind addr : Int) : Decidable (has X kind addr) := by unfold has; infer_instance
set_option maxHeartbeats 4000000 in
set_option maxRecDepth 100000 in
theorem place_1 {w : World} {g : Nat} {R : Nat → Nat} {X : Nat → List Int} (h : IsSlv 77 w g R X) (kind addr : Int) (hk : kind < 1) : Calls Try.prog 48 #[.pointer (some ⟨g, 0, none⟩), .int .i64 kind, .int .i64 addr] w fun e w' => e = .returned (.tuple #[.pointer none, .int .i64 1]) ∧ w = w' := by
  have t1 : decide (kind < 1) = true := decide_eq_true (by omega)
  clear h hk
  go_enter Try.func48, Try.ntmps48
  go_wp2
  go_ret2
  exact ⟨rfl, rfl⟩
set_option maxHeartbeats 4000000 in
set_option maxRecDepth 100000 in
theorem place_2 {w : World} {g : Nat} {R : Nat → Nat} {X : Nat → List Int} (h : IsSlv 77 w g R X) (kind addr : Int) (hk : 4 < kind) : Calls Try.prog 48 #[.pointer (some ⟨g, 0, none⟩), .int .i64 kind, .int .i64 addr] w fun e w' => e = .returned (.tuple #[.pointer none, .int .i64 1]) ∧ w = w' := by
  have t1 : decide (kind < 1) = false := decide_eq_false (by omega)
  have t2 : decide (4 < kind) = true := decide_eq_true (by omega)
  clear h hk
  go_enter Try.func48, Try.ntmps48
  go_wp2
  go_ret2
  exact ⟨rfl, rfl⟩
set_option maxHeartbeats 4000000 in
set_option maxRecDepth 100000 in
theorem place_3 {w : World} {g : Nat} {R : Nat → Nat} {X : Nat → List Int} (h : IsSlv 77 w g R X) (kind addr : Int) (h1 : 1 ≤ kind) (h2 : kind ≤ 4) (ha : addr < 0) : Calls Try.prog 48 #[.pointer (some ⟨g, 0, none⟩), .int .i64 kind, .int .i64 addr] w fun e w' => e = .returned (.tuple #[.pointer none, .int .i64 1]) ∧ w = w' := by
  have t1 : decide (kind < 1) = false := decide_eq_false (by omega)
  have t2 : decide (4 < kind) = false := decide_eq_false (by omega)
  have t3 : decide (addr < 0) = true := decide_eq_true (by omega)
  clear h h1 h2 ha
  go_enter Try.func48, Try.ntmps48
  go_wp2
  go_ret2
  exact ⟨rfl, rfl⟩
set_option maxHeartbeats 4000000 in
set_option maxRecDepth 100000 in
theorem place_4 {w : World} {g : Nat} {R : Nat → Nat} {X : Nat → List Int} (h : IsSlv 77 w g R X) (kind addr : Int) (h1 : 1 ≤ kind) (h2 : kind ≤ 4) (h3 : 0 ≤ addr) (ha : (X (kind - 1).toNat).length ≤ addr) : Calls Try.prog 48 #[.pointer (some ⟨g, 0, none⟩), .int .i64 kind, .int .i64 addr] w fun e w' => e = .returned (.tuple #[.pointer none, .int .i64 1]) ∧ w = w' := by
  obtain ⟨K, rfl⟩ : ∃ K : Nat, kind = (K : Int) + 1 := ⟨(kind - 1).toNat, by omega⟩
  have hK : K < 4 := by omega
  have e1 : ((K : Int) + 1 - 1).toNat = K := by rw [Int.add_sub_cancel]; exact Int.toNat_natCast K
  have hcg := h.cell hK
  unfold sl at hcg
  rw [e1] at ha
  have t1 : decide ((K : Int) + 1 < 1) = false := decide_eq_false (by omega)
  have t2 : decide (4 < (K : Int) + 1) = false := decide_eq_false (by omega)
  have t3 : decide (addr < 0) = false := decide_eq_false (by omega)
  have t4 : decide (((X K).length : Int) ≤ addr) = true := decide_eq_true (by omega)
  have hlK := h.len K hK
  generalize (X K).length = n at *
  have hK0 : (0 : Int) ≤ (K : Int) := (by omega); have hK1 : (K : Int) < 4 := (by omega); have hK2 : (K < 4) = True := eq_true hK
  clear h h1 h2 e1
  go_enter Try.func48, Try.ntmps48
  go_wp2
  go_ret2
  exact ⟨rfl, rfl⟩
set_option maxHeartbeats 4000000 in
set_option maxRecDepth 100000 in
theorem place_5 {w : World} {g : Nat} {R : Nat → Nat} {X : Nat → List Int} (h : IsSlv 77 w g R X) (kind addr : Int) (hh : has X kind addr) : Calls Try.prog 48 #[.pointer (some ⟨g, 0, none⟩), .int .i64 kind, .int .i64 addr] w fun e w' => e = .returned (.tuple #[.pointer (some ⟨R (kind - 1).toNat, addr.toNat, none⟩), .int .i64 0]) ∧ w = w' := by
  obtain ⟨h1, h2, h3, ha⟩ := hh
  obtain ⟨K, rfl⟩ : ∃ K : Nat, kind = (K : Int) + 1 := ⟨(kind - 1).toNat, by omega⟩
  have hK : K < 4 := by omega
  have e1 : ((K : Int) + 1 - 1).toNat = K := by rw [Int.add_sub_cancel]; exact Int.toNat_natCast K
  have hcg := h.cell hK
  unfold sl at hcg
  obtain ⟨a, rfl⟩ := Int.eq_ofNat_of_zero_le h3
  rw [e1] at ha ⊢
  rw [Int.toNat_natCast]
  have t1 : decide ((K : Int) + 1 < 1) = false := decide_eq_false (by omega)
  have t2 : decide (4 < (K : Int) + 1) = false := decide_eq_false (by omega)
  have t3 : decide ((a : Int) < 0) = false := decide_eq_false (by omega)
  have t4 : decide (((X K).length : Int) ≤ (a : Int)) = false := decide_eq_false (by omega)
  have t4' : decide ((X K).length ≤ a) = false := decide_eq_false (by omega)
  have hlK := h.len K hK
  generalize (X K).length = n at *
  have han : a < n := by omega
  have hK0 : (0 : Int) ≤ (K : Int) := (by omega); have hK1 : (K : Int) < 4 := (by omega); have hK2 : (K < 4) = True := eq_true hK
  clear h h1 h2 h3 e1
  go_enter Try.func48, Try.ntmps48
  go_wp2
  go_ret2
  exact ⟨rfl, rfl⟩
set_option maxHeartbeats 4000000 in
set_option maxRecDepth 100000 in
theorem place_nil (kind addr : Int) (w : World) : Calls Try.prog 48 #[.pointer none, .int .i64 kind, .int .i64 addr] w fun e w' => e = .returned (.tuple #[.pointer none, .int .i64 3]) ∧ w = w' := by
  go_enter Try.func48, Try.ntmps48
  go_wp2
  go_ret2
  exact ⟨rfl, rfl⟩
theorem place_no {w : World} {g : Nat} {R : Nat → Nat} {X : Nat → List Int} (h : IsSlv 77 w g R X) (kind addr : Int) (hn : ¬ has X kind addr) : Calls Try.prog 48 #[.pointer (some ⟨g, 0, none⟩), .int .i64 kind, .int .i64 addr] w fun e w' => e = .returned (.tuple #[.pointer none, .int .i64 1]) ∧ w = w' := by
  unfold has at hn
  by_cases h1 : kind < 1
  · exact place_1 h kind addr h1
  by_cases h2 : 4 < kind
  · exact place_2 h kind addr h2
  by_cases h3 : addr < 0
  · exact place_3 h kind addr (by omega) (by omega) h3
  exact place_4 h kind addr (by omega) (by omega) (by omega) (by omega)
theorem place_y {w : World} {g : Nat} {R : Nat → Nat} {X : Nat → List Int} (h : IsSlv 77 w g R X) {kind addr : Int} (hh : has X kind addr) {r a : Nat} (hr : R (kind - 1).toNat = r) (ha : addr.toNat = a) : Calls Try.prog 48 #[.pointer (some ⟨g, 0, none⟩), .int .i64 kind, .int .i64 addr] w fun e w' => e = .returned (.tuple #[.pointer (some ⟨r, a, none⟩), .int .i64 0]) ∧ w = w' := by
  subst hr; subst ha
  exact place_5 h kind addr hh
theorem has_k {X : Nat → List Int} {kind addr : Int} (hh : has X kind addr) : (kind - 1).toNat < 4 ∧ addr.toNat < (X (kind - 1).toNat).length := by
  obtain ⟨h1, h2, h3, h4⟩ := hh
  constructor <;> omega
def getR (X : Nat → List Int) (kind addr : Int) : Int × Int := if has X kind addr then ((X (kind - 1).toNat).getD addr.toNat 0, 0) else (0, 1)
set_option maxHeartbeats 4000000 in
set_option maxRecDepth 100000 in
theorem get_nil (kind addr : Int) (w : World) : Calls Try.prog 24 #[.pointer none, .int .i64 kind, .int .i64 addr] w fun e w' => e = .returned (.tuple #[.int .i64 0, .int .i64 3]) ∧ w = w' := by
  go_enter Try.func24, Try.ntmps24
  go_wp2_with (go_at_call 48; refine (place_nil _ _ _).mono ?_; rintro e w' ⟨rfl, rfl⟩)
  go_ret2
  exact ⟨rfl, rfl⟩
set_option maxHeartbeats 4000000 in
set_option maxRecDepth 100000 in
theorem set_nil (kind addr v : Int) (w : World) : Calls Try.prog 22 #[.pointer none, .int .i64 kind, .int .i64 addr, .int .i64 v] w fun e w' => e = .returned (.int .i64 3) ∧ w = w' := by
  go_enter Try.func22, Try.ntmps22
  go_wp2_with (go_at_call 48; refine (place_nil _ _ _).mono ?_; rintro e w' ⟨rfl, rfl⟩)
  go_ret
  exact ⟨rfl, rfl⟩
set_option maxHeartbeats 4000000 in
set_option maxRecDepth 100000 in
theorem get_no {w : World} {g : Nat} {R : Nat → Nat} {X : Nat → List Int} (h : IsSlv 77 w g R X) (kind addr : Int) (hn : ¬ has X kind addr) : Calls Try.prog 24 #[.pointer (some ⟨g, 0, none⟩), .int .i64 kind, .int .i64 addr] w fun e w' => e = .returned (.tuple #[.int .i64 0, .int .i64 1]) ∧ w = w' := by
  have H := Aside0.mk h; have HN := Aside0.mk hn
  clear h hn
  go_enter Try.func24, Try.ntmps24
  go_wp2_with (go_at_call 48; refine (place_no H.out _ _ HN.out).mono ?_; rintro e w' ⟨rfl, rfl⟩)
  go_ret2
  exact ⟨rfl, rfl⟩
set_option maxHeartbeats 4000000 in
set_option maxRecDepth 100000 in
theorem get_yes {w : World} {g : Nat} {R : Nat → Nat} {X : Nat → List Int} (h : IsSlv 77 w g R X) (kind addr : Int) (hh : has X kind addr) : Calls Try.prog 24 #[.pointer (some ⟨g, 0, none⟩), .int .i64 kind, .int .i64 addr] w fun e w' => e = .returned (.tuple #[.int .i64 ((X (kind - 1).toNat).getD addr.toNat 0), .int .i64 0]) ∧ w = w' := by
  have hk := has_k hh
  have hc := h.at_ hk.1 hk.2
  have H := Aside0.mk h; have HH := Aside0.mk hh
  obtain ⟨r, hr⟩ : ∃ r, R (kind - 1).toNat = r := ⟨_, rfl⟩
  obtain ⟨a, ha⟩ : ∃ a, addr.toNat = a := ⟨_, rfl⟩
  rw [hr, ha] at hc
  rw [ha]
  have HR := Aside0.mk hr; have HA := Aside0.mk ha
  generalize (X (kind - 1).toNat).getD a 0 = x at *
  clear h hh hk hr ha
  go_enter Try.func24, Try.ntmps24
  go_wp2_with (go_at_call 48; refine (place_y H.out HH.out HR.out HA.out).mono ?_; rintro e w' ⟨rfl, rfl⟩)
  go_ret2
  exact ⟨rfl, rfl⟩
theorem get_c {w : World} {g : Nat} {R : Nat → Nat} {X : Nat → List Int} (h : IsSlv 77 w g R X) (kind addr : Int) {n e : Int} (hg : getR X kind addr = (n, e)) : Calls Try.prog 24 #[.pointer (some ⟨g, 0, none⟩), .int .i64 kind, .int .i64 addr] w fun e' w' => e' = .returned (.tuple #[.int .i64 n, .int .i64 e]) ∧ w = w' := by
  unfold getR at hg
  by_cases hh : has X kind addr
  · rw [if_pos hh] at hg; simp only [Prod.mk.injEq] at hg; obtain ⟨rfl, rfl⟩ := hg; exact get_yes h kind addr hh
  · rw [if_neg hh] at hg; simp only [Prod.mk.injEq] at hg; obtain ⟨rfl, rfl⟩ := hg; exact get_no h kind addr hh
set_option maxHeartbeats 4000000 in
set_option maxRecDepth 100000 in
theorem part_3 {w : World} {g : Nat} {R : Nat → Nat} {X : Nat → List Int} (h : IsSlv 77 w g R X) (K : Nat) (hK : K < 4) (a n : Nat) (hb : a ≤ 1000000 ∧ n ≤ 1000000) (h3 : (X K).length < a + n) : Calls Try.prog 41 #[.pointer (some ⟨g, 0, none⟩), .int .i64 ((K : Int)), .int .i64 ((a : Int)), .int .i64 ((n : Int))] w fun e w' => e = .returned (.tuple #[.slice none 0 0, .bool false]) ∧ w = w' := by
  have hcg := h.cell hK
  unfold sl at hcg
  have hlK := h.len K hK
  have hK0 : (0 : Int) ≤ (K : Int) := (by omega); have hK1 : (K : Int) < 4 := (by omega); have hK2 : (K < 4) = True := eq_true hK
  have t1 : decide ((a : Int) < 0) = false := decide_eq_false (by omega)
  have t2 : decide ((n : Int) < 0) = false := decide_eq_false (by omega)
  have t3 : decide (((X K).length : Int) < (a : Int) + (n : Int)) = true := decide_eq_true (by omega)
  have t4 : decide ((X K).length < a + n) = true := decide_eq_true (by omega)
  have hb1 := hb.1; have hb2 := hb.2
  generalize (X K).length = L at *
  clear h h3 hb
  go_enter Try.func41, Try.ntmps41
  go_wp2
  go_ret2
  exact ⟨rfl, rfl⟩
set_option maxHeartbeats 4000000 in
set_option maxRecDepth 100000 in
theorem part_4 {w : World} {g : Nat} {R : Nat → Nat} {X : Nat → List Int} (h : IsSlv 77 w g R X) (K : Nat) (hK : K < 4) (a n : Nat) (hb : a ≤ 1000000 ∧ n ≤ 1000000) (h3 : a + n ≤ (X K).length) (he : (X K).length = a) : Calls Try.prog 41 #[.pointer (some ⟨g, 0, none⟩), .int .i64 ((K : Int)), .int .i64 ((a : Int)), .int .i64 ((n : Int))] w fun e w' => e = .returned (.tuple #[.slice (some ⟨R K, 0, none⟩) n ((X K).length - a), .bool true]) ∧ w = w' := by
  have hcg := h.cell hK
  unfold sl at hcg
  have hlK := h.len K hK
  have hK0 : (0 : Int) ≤ (K : Int) := (by omega); have hK1 : (K : Int) < 4 := (by omega); have hK2 : (K < 4) = True := eq_true hK
  rw [he] at hcg hlK h3
  obtain rfl : n = 0 := by omega
  rw [he]
  clear he h3 hb h
  have t1 : decide ((a : Int) < 0) = false := decide_eq_false (by omega)
  have hb1 : a ≤ 1000000 := (by omega)
  go_enter Try.func41, Try.ntmps41
  go_wp2
  go_ret2
  exact ⟨by simp, rfl⟩
set_option maxHeartbeats 4000000 in
set_option maxRecDepth 100000 in
theorem part_5 {w : World} {g : Nat} {R : Nat → Nat} {X : Nat → List Int} (h : IsSlv 77 w g R X) (K : Nat) (hK : K < 4) (a n : Nat) (hb : a ≤ 1000000 ∧ n ≤ 1000000) (h3 : a + n ≤ (X K).length) (he : ¬ (X K).length = a) : Calls Try.prog 41 #[.pointer (some ⟨g, 0, none⟩), .int .i64 ((K : Int)), .int .i64 ((a : Int)), .int .i64 ((n : Int))] w fun e w' => e = .returned (.tuple #[.slice (some ⟨R K, a, none⟩) n ((X K).length - a), .bool true]) ∧ w = w' := by
  have hcg := h.cell hK
  unfold sl at hcg
  have hlK := h.len K hK
  have hK0 : (0 : Int) ≤ (K : Int) := (by omega); have hK1 : (K : Int) < 4 := (by omega); have hK2 : (K < 4) = True := eq_true hK
  generalize (X K).length = L at *
  have t1 : decide ((a : Int) < 0) = false := decide_eq_false (by omega)
  have t2 : decide ((n : Int) < 0) = false := decide_eq_false (by omega)
  have t3 : decide ((L : Int) < (a : Int) + (n : Int)) = false := decide_eq_false (by omega)
  have t4 : decide (L < a + n) = false := decide_eq_false (by omega)
  have hb1 := hb.1; have hb2 := hb.2
  have h31 : a ≤ L := (by omega)
  clear h hb
  go_enter Try.func41, Try.ntmps41
  go_wp2
  go_ret2
  exact ⟨by show Ending.returned (.tuple #[.slice (some ⟨R K, a, none⟩) (a + n - a) (L - a), .bool true]) = _; rw [Nat.add_sub_cancel_left], rfl⟩
theorem part_yes {w : World} {g : Nat} {R : Nat → Nat} {X : Nat → List Int} (h : IsSlv 77 w g R X) (K : Nat) (hK : K < 4) (a n : Nat) (hb : a ≤ 1000000 ∧ n ≤ 1000000) (h3 : a + n ≤ (X K).length) : ∃ A, Calls Try.prog 41 #[.pointer (some ⟨g, 0, none⟩), .int .i64 ((K : Int)), .int .i64 ((a : Int)), .int .i64 ((n : Int))] w (fun e w' => e = .returned (.tuple #[.slice A n ((X K).length - a), .bool true]) ∧ w = w') ∧ (0 < n → A = some ⟨R K, a, none⟩) := by
  by_cases he : (X K).length = a
  · exact ⟨_, part_4 h K hK a n hb h3 he, fun hn => by omega⟩
  · exact ⟨_, part_5 h K hK a n hb h3 he, fun _ => rfl⟩
end Go.Proofs.Ytocicifgglkaeaa.SlvA
end

section
namespace Go.Proofs.Ytocicifgglkaeaa.SlvB
open Go.RowKit Go.Proofs.YtocicifgglkaeaaW.PrintWords Go.Proofs.YtocicifgglkaeaaW.PrintLast Go.Proofs.YtocicifgglkaeaaW.PrintMore Go.Proofs.Ytocicifgglkaeaa.Core Go.Proofs.Ytocicifgglkaeaa.Wk Go.Proofs.Ytocicifgglkaeaa.Chk Go.Proofs.Ytocicifgglkaeaa.SlvA
set_option linter.unusedVariables false
set_option linter.unusedSimpArgs false
attribute [local go_sem] max2_int min2_int max_two min_two
def cl (c : Nat → Value) : Array Value := #[c 0, c 1, c 2, c 3]
theorem cl_set (c : Nat → Value) {k : Nat} (hk : k < 4) (v : Value) : (cl c).setIfInBounds k v = cl (fun j => if j = k then v else c j) := by
  match k, hk with
  | 0, _ => rfl
  | 1, _ => rfl
  | 2, _ => rfl
  | 3, _ => rfl
theorem cl_cell {W : World} {g : Nat} {c : Nat → Value} {T : TypeId} (h : W.heap[g]? = some (.cells (cl c) T (0, 0))) {k : Nat} (hk : k < 4) : W.cell? ⟨g, k, none⟩ = some (c k) := by
  rw [blk_cell h k]
  match k, hk with
  | 0, _ => rfl
  | 1, _ => rfl
  | 2, _ => rfl
  | 3, _ => rfl
def nz (a b : Nat) (k : Nat) : Nat := if k < 2 then a else b
def zs (n : Nat) : List Int := List.replicate n 0
structure Mk (T : TypeId) (B : Nat) (W : World) (g a b : Nat) (p : Nat → Bool) (R : Nat → Nat) : Prop where
  blk : W.heap[g]? = some (.cells (cl (fun k => if p k then .slice (some ⟨R k, 0, none⟩) (nz a b k) (nz a b k) else .slice none 0 0)) T (0, 0))
  row : ∀ k, k < 4 → p k = true → W.heap[R k]? = some (.cells ((zs (nz a b k)).map (Value.int .i64)).toArray 3 (0, 0)) ∧ R k ≠ g ∧ B ≤ R k
  inj : ∀ i j, i < 4 → j < 4 → p i = true → p j = true → R i = R j → i = j
theorem Mk.step {T : TypeId} {B : Nat} {W W1 W' : World} {g a b r k : Nat} {p : Nat → Bool} {R : Nat → Nat} (h : Mk T B W g a b p R) (hk : k < 4) (HB : Below W.heap.size W W1) (hr : W.heap.size ≤ r) (hB : B ≤ r)
    (hrow : W1.heap[r]? = some (.cells ((zs (nz a b k)).map (Value.int .i64)).toArray 3 (0, 0))) (hw : W' = W1.setCell ⟨g, k, none⟩ (.slice (some ⟨r, 0, none⟩) (nz a b k) (nz a b k))) :
    Mk T B W' g a b (fun j => if j = k then true else p j) (fun j => if j = k then r else R j) := by
  have hg := blk_lt h.blk
  have hb1 : W1.heap[g]? = _ := blk_below h.blk HB
  obtain ⟨h1, E⟩ := put1 hw hb1 (cl_set _ hk _)
  refine ⟨?_, fun j hj hp => ?_, fun i j hi hj hpi hpj e => ?_⟩
  · rw [h1]; congr 3; funext j; by_cases e : j = k
    · subst e; simp
    · simp [e]
  · by_cases e : j = k
    · subst e
      simp only [if_true]
      exact ⟨Ext.blk E hrow (fun e => by have : r = g := e; omega), by omega, hB⟩
    · simp only [if_neg e] at hp ⊢
      obtain ⟨q1, q2, q3⟩ := h.row j hj hp
      exact ⟨Ext.blk E (blk_below q1 HB) q2, q2, q3⟩
  · by_cases ei : i = k
    · by_cases ej : j = k
      · omega
      · simp only [ei, if_true, if_neg ej] at e hpj
        have := blk_lt (h.row j hj hpj).1
        omega
    · by_cases ej : j = k
      · simp only [ej, if_true, if_neg ei] at e hpi
        have := blk_lt (h.row i hi hpi).1
        omega
      · simp only [if_neg ei, if_neg ej] at e hpi hpj
        exact h.inj i j hi hj hpi hpj e
theorem Mk.done {T : TypeId} {B : Nat} {W : World} {g a b : Nat} {p : Nat → Bool} {R : Nat → Nat} (h : Mk T B W g a b p R) (hp : ∀ k, k < 4 → p k = true) (ha : a ≤ 65536) (hb : b ≤ 65536) : IsSlv T W g R (fun k => zs (nz a b k)) := by
  refine ⟨?_, fun k hk => (h.row k hk (hp k hk)).1, fun i j hi hj e => h.inj i j hi hj (hp i hi) (hp j hj) e, fun k hk => (h.row k hk (hp k hk)).2.1, fun k hk => by simp only [zs, List.length_replicate]; unfold nz; split <;> omega⟩
  have := h.blk
  simp only [cl] at this
  rw [hp 0 (by omega), hp 1 (by omega), hp 2 (by omega), hp 3 (by omega)] at this
  simpa [sl, zs] using this
theorem Mk.ext {T : TypeId} {B : Nat} {W W' : World} {g a b : Nat} {p : Nat → Bool} {R : Nat → Nat} {F : Nat → Prop} (h : Mk T B W g a b p R) (E : Ext F W W') (hg : ¬ F g) (hr : ∀ k, F k → k < W.heap.size → W.heap[k]? = none ∨ ∀ c t q, W.heap[k]? ≠ some (.cells c t q)) : Mk T B W' g a b p R := by
  refine ⟨Ext.blk E h.blk hg, fun k hk hp => ?_, h.inj⟩
  obtain ⟨q1, q2, q3⟩ := h.row k hk hp
  refine ⟨Ext.blk E q1 (fun hF => ?_), q2, q3⟩
  rcases hr _ hF (blk_lt q1) with e | e
  · rw [q1] at e; cases e
  · exact e _ _ _ q1
end Go.Proofs.Ytocicifgglkaeaa.SlvB
end

section
namespace Go.Proofs.Ytocicifgglkaeaa.SlvE
open Go.RowKit Go.Proofs.YtocicifgglkaeaaW.PrintWords Go.Proofs.YtocicifgglkaeaaW.PrintLast Go.Proofs.YtocicifgglkaeaaW.PrintMore Go.Proofs.Ytocicifgglkaeaa.Core Go.Proofs.Ytocicifgglkaeaa.Wk Go.Proofs.Ytocicifgglkaeaa.Chk Go.Proofs.Ytocicifgglkaeaa.SlvA Go.Proofs.Ytocicifgglkaeaa.SlvB
set_option linter.unusedVariables false
set_option linter.unusedSimpArgs false
attribute [local go_sem] max2_int min2_int max_two min_two
theorem wrap64_of {x : Int} (h0 : -1000000000000 ≤ x) (h1 : x ≤ 9223372036854775807) : wrap64 x = x := by
  unfold wrap64
  omega
set_option maxHeartbeats 4000000 in
set_option maxRecDepth 100000 in
theorem ints_n {n : Nat} (A0 A1 : Option Addr) (c0 c1 : Nat) (l0 l1 : List Int) (w : World) (e0 : l0.length = n) (e1 : l1.length = n) (h0 : Kd.C (Kd.int .i64) w A0 l0.length l0) (h1 : Kd.C (Kd.int .i64) w A1 l1.length l1) :
    Calls Try.prog 42 #[.slice A0 n c0, .slice A1 n c1] w fun e w' => e = .returned (.bool (decide (l0 = l1))) ∧ Drawn0 w w' := by
  have hmx : n ≤ 9223372036854775807 := by rw [← e0]; exact h0.2.1
  have E0 := Aside0.mk e0; have E1 := Aside0.mk e1; have H0 := Aside0.mk h0; have H1 := Aside0.mk h1
  clear e0 e1 h0 h1
  go_enter Try.func42, Try.ntmps42
  go_wp2
  repeat (go_quiet (fail); try go_wp2)
  go_loopw [5] (fun v wr => ∃ i : Int, 0 ≤ i ∧ i ≤ n ∧ v = .int .i64 i ∧ Aside0 (l0.take i.toNat = l1.take i.toNat) ∧ Drawn0 w wr) (fun v _ => n - (intOf v).toNat)
  case atStart => exact ⟨0, by omega, by omega, rfl, ⟨rfl⟩, by repeat (first | exact Drawn0.refl _ | apply Drawn0.step)⟩
  case round =>
    obtain ⟨i, hi0, hk, rfl, HT, ⟨m, rfl⟩⟩ := hrel
    by_cases hlt : i < (n : Int)
    · have t2 : decide (i < (n : Int)) = true := decide_eq_true hlt
      have hkl : Aside0 (0 ≤ i ∧ i < (n : Int)) := ⟨hi0, hlt⟩
      obtain ⟨a0, e0, g0⟩ := Kd.at_int H0.out i hi0 (by rw [E0.out]; exact hlt)
      cases e0
      obtain ⟨a1, e1, g1⟩ := Kd.at_int H1.out i hi0 (by rw [E1.out]; exact hlt)
      cases e1
      have HG : Aside0 (rd l0 i = l0.getD i.toNat 0 ∧ rd l1 i = l1.getD i.toNat 0) := ⟨rfl, rfl⟩
      obtain ⟨x, hx⟩ : ∃ x, rd l0 i = x := ⟨_, rfl⟩
      obtain ⟨y, hy⟩ : ∃ y, rd l1 i = y := ⟨_, rfl⟩
      rw [hx] at g0; rw [hy] at g1
      have HX := Aside0.mk hx; have HY := Aside0.mk hy
      have hw : Aside0 (wrap64 (i + 1) = i + 1) := ⟨wrap64_of (by omega) (by omega)⟩
      have p0 := eq_true hi0; have q0 := eq_true hlt
      clear hx hy hlt hi0 hk
      by_cases hxy : x = y
      · have u1 : (x == y) = true := beq_iff_eq.mpr hxy
        have u2 : (x != y) = false := bne_eq_false_iff_eq.mpr hxy
        have HS : Aside0 (l0.take (i + 1).toNat = l1.take (i + 1).toNat) := ⟨by
          obtain ⟨b0, b1⟩ := hkl.out; have a := E0.out; have b := E1.out
          rw [show (i + 1).toNat = i.toNat + 1 by omega]
          rw [List.take_succ_eq_append_getElem (by omega), List.take_succ_eq_append_getElem (by omega), HT.out]
          have q0 := HX.out; have q1 := HY.out
          rw [HG.out.1] at q0; rw [HG.out.2] at q1
          rw [List.getD_eq_getElem?_getD, List.getElem?_eq_getElem (by omega), Option.getD_some] at q0 q1
          rw [q0, q1, hxy]⟩
        clear HT hxy
        go_wp2
        repeat (go_quiet (fail); try go_wp2)
        go_roundw
        case rel => exact ⟨i + 1, by have := hkl.out; omega, by have := hkl.out; omega, by simp only [hw.out], HS, by repeat (first | exact Drawn0.refl _ | apply Drawn0.step)⟩
        case measure => have := hkl.out; simp only [intOf, hw.out]; omega
      · have u1 : (x == y) = false := beq_eq_false_iff_ne.mpr hxy
        have u2 : (x != y) = true := bne_iff_ne.mpr hxy
        have HS : Aside0 (decide (l0 = l1) = false) := ⟨decide_eq_false (fun e => hxy (by rw [← HX.out, ← HY.out, e]))⟩
        clear HT hxy
        go_wp2
        repeat (go_quiet (fail); try go_wp2)
        go_ret
        exact ⟨(congrArg (fun b => Ending.returned (Value.bool b)) HS.out).symm, by repeat (first | exact Drawn0.refl _ | apply Drawn0.step)⟩
    · have t2 : decide (i < (n : Int)) = false := decide_eq_false hlt
      have HS : Aside0 (decide (l0 = l1) = true) := ⟨decide_eq_true (by
        have h := HT.out
        rw [List.take_of_length_le (by rw [E0.out]; omega), List.take_of_length_le (by rw [E1.out]; omega)] at h
        exact h)⟩
      clear HT hlt
      go_wp2
      repeat (go_quiet (fail); try go_wp2)
      go_ret
      exact ⟨(congrArg (fun b => Ending.returned (Value.bool b)) HS.out).symm, by repeat (first | exact Drawn0.refl _ | apply Drawn0.step)⟩
set_option maxHeartbeats 4000000 in
set_option maxRecDepth 100000 in
theorem ints_ne {n m : Nat} (A0 A1 : Option Addr) (c0 c1 : Nat) (hnm : ¬ n = m) (w : World) : Calls Try.prog 42 #[.slice A0 n c0, .slice A1 m c1] w fun e w' => e = .returned (.bool false) ∧ Drawn0 w w' := by
  have c3b0 : ((n : Int) == (m : Int)) = false := beq_eq_false_iff_ne.mpr (by omega)
  have c3b1 : ((n : Int) != (m : Int)) = true := bne_iff_ne.mpr (by omega)
  have c3b2 : (n == m) = false := beq_eq_false_iff_ne.mpr hnm
  clear hnm
  go_enter Try.func42, Try.ntmps42
  go_wp2
  repeat (go_quiet (fail); try go_wp2)
  go_ret
  exact ⟨rfl, by repeat (first | exact Drawn0.refl _ | apply Drawn0.step)⟩
theorem ints_c (A0 A1 : Option Addr) (c0 c1 : Nat) (l0 l1 : List Int) {n m : Nat} (w : World) (e0 : l0.length = n) (e1 : l1.length = m) (h0 : Kd.C (Kd.int .i64) w A0 l0.length l0) (h1 : Kd.C (Kd.int .i64) w A1 l1.length l1) {b : Bool} (hb : decide (l0 = l1) = b) :
    Calls Try.prog 42 #[.slice A0 n c0, .slice A1 m c1] w fun e w' => e = .returned (.bool b) ∧ Drawn0 w w' := by
  subst hb
  by_cases h : n = m
  · subst h; exact ints_n A0 A1 c0 c1 l0 l1 w e0 e1 h0 h1
  · rw [decide_eq_false (fun e => h (by rw [← e0, ← e1, e]))]; exact ints_ne A0 A1 c0 c1 h w
set_option maxHeartbeats 4000000 in
set_option maxRecDepth 100000 in
theorem asame_c (A0 A1 : Option Addr) (c0 c1 : Nat) (l0 l1 : List Int) (a b : Int) {n m : Nat} (w : World) (e0 : l0.length = n) (e1 : l1.length = m) (h0 : Kd.C (Kd.int .i64) w A0 l0.length l0) (h1 : Kd.C (Kd.int .i64) w A1 l1.length l1) {r : Bool} (hb : (decide (a = b) && decide (l0 = l1)) = r) :
    Calls Try.prog 17 #[.agg #[.slice A0 n c0, .int .i64 a], .agg #[.slice A1 m c1, .int .i64 b]] w fun e w' => e = .returned (.bool r) ∧ Below w.heap.size w w' := by
  subst hb
  by_cases h : a = b
  · have u1 : (a == b) = true := beq_iff_eq.mpr h
    rw [decide_eq_true h, Bool.true_and]
    obtain ⟨q, hq⟩ : ∃ q, decide (l0 = l1) = q := ⟨_, rfl⟩
    rw [hq]
    have I := Aside0.mk (fun w => fun (x0 : Kd.C (Kd.int .i64) w A0 l0.length l0) (x1 : Kd.C (Kd.int .i64) w A1 l1.length l1) => ints_c A0 A1 c0 c1 l0 l1 w e0 e1 x0 x1 hq)
    have H0 := Aside0.mk h0; have H1 := Aside0.mk h1
    clear h e0 e1 h0 h1 hq
    go_enter Try.func17, Try.ntmps17
    go_wp2_with (go_at_call 42; refine (I.out _ (by (with_reducible repeat (first | refine Kd.C_alloc ?_ _ | refine Kd.C_drewN ?_ _ | refine Kd.C_drew ?_)); exact H0.out) (by (with_reducible repeat (first | refine Kd.C_alloc ?_ _ | refine Kd.C_drewN ?_ _ | refine Kd.C_drew ?_)); exact H1.out)).mono ?_; rintro e w' ⟨rfl, ⟨m1, rfl⟩⟩)
    go_ret
    exact ⟨rfl, by repeat (first | exact Below.refl _ _ | apply below_alloc | apply pw_below_drewN | apply below_drew1)⟩
  · have u1 : (a == b) = false := beq_eq_false_iff_ne.mpr h
    rw [decide_eq_false h, Bool.false_and]
    clear h e0 e1 h0 h1
    go_enter Try.func17, Try.ntmps17
    go_wp2
    go_ret
    exact ⟨rfl, by repeat (first | exact Below.refl _ _ | apply below_alloc | apply pw_below_drewN | apply below_drew1)⟩
theorem part_pos {w : World} {g : Nat} {R : Nat → Nat} {X : Nat → List Int} (h : IsSlv 77 w g R X) {K : Nat} (hK : K < 4) {a n : Nat} (hb : a ≤ 1000000 ∧ n ≤ 1000000) (h3 : a + n ≤ (X K).length) (hn : 0 < n) {r q L : Nat} (hr : R K = r) (hL : (X K).length = L) (hq : L - a = q) {ki : Int} (hki : (K : Int) = ki) :
    Calls Try.prog 41 #[.pointer (some ⟨g, 0, none⟩), .int .i64 ki, .int .i64 a, .int .i64 n] w (fun e w' => e = .returned (.tuple #[.slice (some ⟨r, a, none⟩) n q, .bool true]) ∧ w = w') := by
  obtain ⟨A, h1, h2⟩ := part_yes h K hK a n hb h3
  have h4 := h2 hn
  subst h4; subst hr; subst hL; subst hq; subst hki
  exact h1
theorem part_neg {w : World} {g : Nat} {R : Nat → Nat} {X : Nat → List Int} (h : IsSlv 77 w g R X) {K : Nat} (hK : K < 4) {a n : Nat} (hb : a ≤ 1000000 ∧ n ≤ 1000000) (h3 : (X K).length < a + n) {ki : Int} (hki : (K : Int) = ki) :
    Calls Try.prog 41 #[.pointer (some ⟨g, 0, none⟩), .int .i64 ki, .int .i64 a, .int .i64 n] w (fun e w' => e = .returned (.tuple #[.slice none 0 0, .bool false]) ∧ w = w') := by
  subst hki
  exact part_3 h K hK a n hb h3
end Go.Proofs.Ytocicifgglkaeaa.SlvE
end

section
namespace Go.Proofs.Ytocicifgglkaeaa.SlvW
open Go.RowKit Go.Proofs.YtocicifgglkaeaaW.PrintWords Go.Proofs.YtocicifgglkaeaaW.PrintLast Go.Proofs.YtocicifgglkaeaaW.PrintMore Go.Proofs.Ytocicifgglkaeaa.Core Go.Proofs.Ytocicifgglkaeaa.Wk Go.Proofs.Ytocicifgglkaeaa.Chk Go.Proofs.Ytocicifgglkaeaa.SlvA Go.Proofs.Ytocicifgglkaeaa.SlvB Go.Proofs.Ytocicifgglkaeaa.SlvE
set_option linter.unusedVariables false
set_option linter.unusedSimpArgs false
attribute [local go_sem] max2_int min2_int max_two min_two
def wrAt (xs : List Int) (a : Nat) (l : List Int) : List Int := xs.take a ++ l ++ xs.drop (a + l.length)
theorem wrAt_len {xs l : List Int} {a : Nat} (h : a + l.length ≤ xs.length) : (wrAt xs a l).length = xs.length := by
  unfold wrAt; simp only [List.length_append, List.length_take, List.length_drop]; omega
end Go.Proofs.Ytocicifgglkaeaa.SlvW
end

section
namespace Go.Proofs.Ytocicifgglkaeaa.SlvF
open Go.RowKit Go.Proofs.YtocicifgglkaeaaW.PrintWords Go.Proofs.YtocicifgglkaeaaW.PrintLast Go.Proofs.YtocicifgglkaeaaW.PrintMore Go.Proofs.Ytocicifgglkaeaa.Core Go.Proofs.Ytocicifgglkaeaa.Wk Go.Proofs.Ytocicifgglkaeaa.Chk Go.Proofs.Ytocicifgglkaeaa.SlvA Go.Proofs.Ytocicifgglkaeaa.SlvB Go.Proofs.Ytocicifgglkaeaa.SlvE Go.Proofs.Ytocicifgglkaeaa.SlvW
set_option linter.unusedVariables false
set_option linter.unusedSimpArgs false
attribute [local go_sem] max2_int min2_int max_two min_two
def rdAt (xs : List Int) (a c : Nat) : List Int := (xs.drop a).take c
theorem rdAt_len {xs : List Int} {a c : Nat} (h : a + c ≤ xs.length) : (rdAt xs a c).length = c := by unfold rdAt; rw [List.length_take, List.length_drop]; omega
theorem C_sub {W : World} {r a c : Nat} {xs : List Int} {k : IntKind} {e : TypeId} (h : W.heap[r]? = some (.cells (xs.map (Value.int k)).toArray e (0, 0))) (hfit : a + c ≤ xs.length) (hm : c ≤ 9223372036854775807) : Kd.C (Kd.int k) W (some ⟨r, a, none⟩) (rdAt xs a c).length (rdAt xs a c) := by
  refine Kd.C_of_reads (enc := Value.int k) (d := (0 : Int)) (h1 := fun _ => rfl) (show ReadsInt W k _ _ _ from ⟨rfl, by rw [rdAt_len hfit]; exact hm, fun hn => ⟨_, rfl, fun j hj => ?_⟩⟩)
  rw [rdAt_len hfit] at hj
  have e1 : (⟨r, a, none⟩ : Addr).add j = ⟨r, a + j, none⟩ := by simp [Addr.add]
  rw [e1, blk_cell h (a + j)]
  have e2 : (rdAt xs a c).getD j 0 = xs.getD (a + j) 0 := by
    unfold rdAt
    rw [List.getD_eq_getElem?_getD, List.getD_eq_getElem?_getD, List.getElem?_take, if_pos hj, List.getElem?_drop]
  rw [e2]
  simp only [List.getElem?_toArray, List.getElem?_map, List.getD_eq_getElem?_getD, List.getElem?_eq_getElem (show a + j < xs.length by omega), Option.map_some, Option.getD_some]
theorem put2 {W W' : World} {g : Nat} {v0 v1 a0 a1 : Value} {T : TypeId} (hw : W' = (W.setCell ⟨g, 0, none⟩ v0).setCell ⟨g, 1, none⟩ v1) (hb : W.heap[g]? = some (.cells #[a0, a1] T (0, 0))) : W'.heap[g]? = some (.cells #[v0, v1] T (0, 0)) ∧ Ext (fun k => k = g) W W' := by
  subst hw
  exact ⟨blk_put (blk_put hb 0 v0 rfl) 1 v1 rfl, ((Ext.refl _ _).setg v0).setg v1⟩
def IsAns (w w' : World) (A : Option Addr) (ys : List Int) : Prop := ∀ M : Nat → Prop, (∀ k, M k → k < w.heap.size) → Ever M w' (fun W => Kd.C (Kd.int .i64) W A ys.length ys)
theorem own_ints {k : IntKind} {e : TypeId} {base : Nat} {W : World} {v : Value} {xs : List Int} (h : OwnE (Kd.int k) (Mv (fun _ => False) (.slice none 0 0)) e base W v xs) :
    ∃ A c, v = .slice A xs.length c ∧ xs.length ≤ c ∧ ∀ M : Nat → Prop, (∀ k, M k → k < base) → Ever M W (fun W => Kd.C (Kd.int k) W A xs.length xs) := by
  obtain ⟨i, h1, h2⟩ := h
  obtain ⟨A, c, rfl⟩ := own_slice h1
  refine ⟨A, c, rfl, own_cap h1, fun M hM => ?_⟩
  have h' : OwnE (Kd.int k) M e base W (.slice A xs.length c) xs := ⟨i, h1, h2.imp_ (fun x cs hx => ⟨fun w' _ => hx.now⟩)⟩
  obtain ⟨A', c', e', _, h3⟩ := h'.view (fun j hj hm => by have := own_base h1 j hj; have := hM j hm; omega)
  cases e'
  exact h3
section
variable {P : Program} {ops : Array Oper} {rest : List Oper} {o : Oper} {a : Act} {Q : Exit → Act → World → Prop} {W : World}
theorem copy_none_ev (hgd : o.guard = none) (d s : Operand) {t e : TypeId} (ho : o.op = .call { callee := .builtin .copy, args := #[d, s], argTypes := #[t, t] }) (ht : P.underlying t = some (.slice e)) (hinfo : (P.info? e).map (·.size) = some 1)
    {D A : Option Addr} {n c m c2 : Nat} (hd : a.eval d = .slice D n c) (hs : a.eval s = .slice A m c2) (h0 : Nat.min m n = 0) (h : wpList P ops Q rest (a.put o.dst (goInt 0)) W) : wpList P ops Q (o :: rest) a W := by
  refine Kd.event_run hgd ?_ h
  have hrun := run_copy_none (P := P) W t t o.type e D A n c m c2 ht hinfo h0
  simp [execOp, ho, resolve, invoke, builtin, hd, hs, hrun, Result.andThen]
theorem copy_at_ev (hgd : o.guard = none) (d s : Operand) {t e : TypeId} (k : IntKind) (ho : o.op = .call { callee := .builtin .copy, args := #[d, s], argTypes := #[t, t] }) (ht : P.underlying t = some (.slice e)) (hinfo : (P.info? e).map (·.size) = some 1)
    {g a0 n c c2 : Nat} (xs ys : List Int) (A : Option Addr) (hn : ys.length = n) (hpos : 0 < n) (hd : a.eval d = .slice (some ⟨g, a0, none⟩) n c) (hs : a.eval s = .slice A n c2) (hfit : a0 + n ≤ xs.length)
    (hb : W.heap[g]? = some (.cells (xs.map (Value.int k)).toArray e (0, 0))) (hC : Kd.C (Kd.int k) W A ys.length ys)
    (h : ∀ w1, w1.heap[g]? = some (.cells ((wrAt xs a0 ys).map (Value.int k)).toArray e (0, 0)) → Ext (fun k => k = g) W w1 → wpList P ops Q rest (a.put o.dst (goInt n)) w1) : wpList P ops Q (o :: rest) a W := by
  obtain ⟨ad, rfl, hcell⟩ := C_cell hC (by omega)
  have hl : (ys.map (Value.int k)).length = Nat.min n n := by simp [hn]
  have hrun := run_copy_row (P := P) W t t o.type e g a0 n c ad n c2 ((xs.map (Value.int k)).toArray) e (ys.map (Value.int k)) ht hinfo hb hl (by
      intro j v hj
      rw [List.getElem?_map] at hj
      obtain ⟨y, hy, rfl⟩ := Option.map_eq_some_iff.1 hj
      have hjl := (List.getElem?_eq_some_iff.1 hy).1
      rw [hcell j hjl, List.getD_eq_getElem?_getD, hy]; rfl) (by simp [hn]; omega) (by
      intro v hv
      obtain ⟨y, _, rfl⟩ := List.mem_map.1 hv
      rfl)
  refine wpList_plain hgd fun K hK => ?_
  unfold Oper.wp
  simp only [execOp, ho, resolve, invoke, builtin, hd, hs, Sem.run_bind, Sem.run_pure, Result.andThen_ok, List.map_toArray, List.map_cons, List.map_nil, hrun]
  refine hK _ _ ?_
  have e1 : (goInt ((ys.map (Value.int k)).length : Int)) = goInt ((n : Nat) : Int) := by rw [List.length_map, hn]
  rw [e1]
  refine h _ ?_ ⟨rfl, rfl, rfl, by simp [World.setRow], fun j hj hne => setRow_other W g j _ hne⟩
  refine (setRow_heap W g _ _ e _ hb).trans ?_
  congr 3
  unfold wrAt
  simp [List.map_take, List.map_drop, hn]
end
end Go.Proofs.Ytocicifgglkaeaa.SlvF
end

section
namespace Go.Proofs.Ytocicifgglkaeaa.SlvG
open Go.RowKit Go.Proofs.YtocicifgglkaeaaW.PrintWords Go.Proofs.YtocicifgglkaeaaW.PrintLast Go.Proofs.YtocicifgglkaeaaW.PrintMore Go.Proofs.Ytocicifgglkaeaa.Core Go.Proofs.Ytocicifgglkaeaa.Wk Go.Proofs.Ytocicifgglkaeaa.Chk Go.Proofs.Ytocicifgglkaeaa.SlvA Go.Proofs.Ytocicifgglkaeaa.SlvB Go.Proofs.Ytocicifgglkaeaa.SlvE Go.Proofs.Ytocicifgglkaeaa.SlvW Go.Proofs.Ytocicifgglkaeaa.SlvF
set_option linter.unusedVariables false
set_option linter.unusedSimpArgs false
attribute [local go_sem] max2_int min2_int max_two min_two
theorem chk_n {f a c : Int} {A : Option Addr} {cc : Nat} {v : List Int} {t n o : Int} {nv : Nat} (hn : v.length = nv) {w : World} (hV : Kd.C (Kd.int .i64) w A v.length v) {b : Bool} (hb : Chk.chkB f a c v t n o = b) {x : Int} (hx : (if b then 0 else 1) = x) : Calls Try.prog 29 #[.agg #[.int .i64 f, .int .i64 a, .int .i64 c, .slice A nv cc, .int .i64 t, .int .i64 n, .int .i64 o]] w fun e w' => e = .returned (.int .i64 x) ∧ Below w.heap.size w w' := by
  subst hn; exact Chk.chk_yes f a c A cc v t n o w hV hb hx
set_option maxHeartbeats 4000000 in
set_option maxRecDepth 100000 in
theorem do_r0_no {w : World} {g : Nat} {R : Nat → Nat} {X : Nat → List Int} (h : IsSlv 77 w g R X) {A : Option Addr} {cc : Nat} {v : List Int} (hn : v.length = 0) (hV : Ever (Fp g R) w (fun W => Kd.C (Kd.int .i64) W A v.length v)) {a c : Nat} {t n o : Int} (hck : Chk.chkB 1 (a : Int) (c : Int) v t n o = true) (hb : a ≤ 1000000 ∧ c ≤ 1000000) (hlt : (X 0).length < a + c) : Calls Try.prog 15 #[.pointer (some ⟨g, 0, none⟩), .agg #[.int .i64 1, .int .i64 (a : Int), .int .i64 (c : Int), .slice A 0 cc, .int .i64 t, .int .i64 n, .int .i64 o]] w fun e w' => ∃ AA cA, e = .returned (.tuple #[.agg #[.slice AA (([] : List Int)).length cA, .int .i64 2], .int .i64 0]) ∧ (([] : List Int)).length ≤ cA ∧ IsSlv 77 w' g R (X) ∧ Ext (Fp g R) w w' ∧ IsAns w w' AA (([] : List Int)) := by
  have SL : Aside0 (IsSlv 77 w g R (X)) := ⟨h⟩; have XT : Aside0 (Ext (Fp g R) w w) := ⟨Ext.refl _ _⟩; have HV := Aside0.mk hV; have HN := Aside0.mk hn
  have HCK := Aside0.mk hck
  obtain ⟨xs, hxs⟩ : ∃ xs, X 0 = xs := ⟨_, rfl⟩; obtain ⟨r, hr⟩ : ∃ r, R 0 = r := ⟨_, rfl⟩; have HXS := Aside0.mk hxs; have HR := Aside0.mk hr
  obtain ⟨L, hL⟩ : ∃ L, (X 0).length = L := ⟨_, rfl⟩; have HL := Aside0.mk hL
  obtain ⟨qq, hqq⟩ : ∃ q, L - a = q := ⟨_, rfl⟩; have HQQ := Aside0.mk hqq
  have HB := Aside0.mk hb; have HLT := Aside0.mk hlt
  clear h hV hn hck hb hlt hxs hr hL hqq
  go_enter Try.func15, Try.ntmps15
  go_wp2_with (first | ((with_reducible refine gate_dst (N := 3) rfl ?_); refine box_event ?hg (N := 3) ?hd (cs := #[.int .i64 1, .int .i64 (a : Int), .int .i64 (c : Int), .slice A 0 cc, .int .i64 t, .int .i64 n, .int .i64 o]) (t := 24) ?hr ?_; (case hd => rfl); (case hg => rfl); (case hr => first | (go_simp; done) | (go_simp; rfl)); intro q hg w1 hbox HBc; have NS_q : Aside0 (∀ k, Fp g R k → k ≠ q) := ⟨fun k hk e => by have := SL.out.lt k hk; omega⟩; have RG_q : Aside0 (w.heap.size ≤ q) := ⟨Nat.le_trans XT.out.size (Nat.le_of_eq hg.symm)⟩; clear hg; have SLn : Aside0 (IsSlv 77 w1 g R (X)) := ⟨SL.out.below HBc⟩; have XTn : Aside0 (Ext (Fp g R) w w1) := ⟨XT.out.stepB HBc⟩; have HVn : Aside0 (Ever (Fp g R) w1 (fun W => Kd.C (Kd.int .i64) W A v.length v)) := ⟨HV.out.step (.of_below HBc)⟩; clear SL XT HV; have SL := SLn; have XT := XTn; have HV := HVn; clear SLn XTn HVn; have BK_q : Aside0 (w1.heap[q]? = some (.cells #[.int .i64 1, .int .i64 (a : Int), .int .i64 (c : Int), .slice A 0 cc, .int .i64 t, .int .i64 n, .int .i64 o] 24 (0, 0))) := ⟨hbox⟩; clear hbox HBc; have lc1_0 : w1.cell? ⟨q, 0, none⟩ = some (.int .i64 1) := (blk_cell BK_q.out 0).trans rfl; have lf1_0 := blk_frozen BK_q.out 0; have lc1_1 : w1.cell? ⟨q, 1, none⟩ = some (.int .i64 (a : Int)) := (blk_cell BK_q.out 1).trans rfl; have lf1_1 := blk_frozen BK_q.out 1; have lc1_2 : w1.cell? ⟨q, 2, none⟩ = some (.int .i64 (c : Int)) := (blk_cell BK_q.out 2).trans rfl; have lf1_2 := blk_frozen BK_q.out 2; have lc1_3 : w1.cell? ⟨q, 3, none⟩ = some (.slice A 0 cc) := (blk_cell BK_q.out 3).trans rfl; have lf1_3 := blk_frozen BK_q.out 3; have lc1_4 : w1.cell? ⟨q, 4, none⟩ = some (.int .i64 t) := (blk_cell BK_q.out 4).trans rfl; have lf1_4 := blk_frozen BK_q.out 4; have lc1_5 : w1.cell? ⟨q, 5, none⟩ = some (.int .i64 n) := (blk_cell BK_q.out 5).trans rfl; have lf1_5 := blk_frozen BK_q.out 5; have lc1_6 : w1.cell? ⟨q, 6, none⟩ = some (.int .i64 o) := (blk_cell BK_q.out 6).trans rfl; have lf1_6 := blk_frozen BK_q.out 6) | ((with_reducible refine gate_dst (N := 4) rfl ?_); refine box_event ?hg (N := 4) ?hd (cs := #[.slice none 0 0, .int .i64 0]) (t := 30) ?hr ?_; (case hd => rfl); (case hg => rfl); (case hr => first | (go_simp; done) | (go_simp; rfl)); intro z hg w2 hbox HBc; have NS_z : Aside0 (∀ k, Fp g R k → k ≠ z) := ⟨fun k hk e => by have := SL.out.lt k hk; omega⟩; have RG_z : Aside0 (w.heap.size ≤ z) := ⟨Nat.le_trans XT.out.size (Nat.le_of_eq hg.symm)⟩; have NE_q_z : Aside0 (q ≠ z) := ⟨ne_born (blk_lt BK_q.out) hg⟩; clear hg; have BK_qn : Aside0 (w2.heap[q]? = some (.cells #[.int .i64 1, .int .i64 (a : Int), .int .i64 (c : Int), .slice A 0 cc, .int .i64 t, .int .i64 n, .int .i64 o] 24 (0, 0))) := ⟨blk_below BK_q.out HBc⟩; have SLn : Aside0 (IsSlv 77 w2 g R (X)) := ⟨SL.out.below HBc⟩; have XTn : Aside0 (Ext (Fp g R) w w2) := ⟨XT.out.stepB HBc⟩; have HVn : Aside0 (Ever (Fp g R) w2 (fun W => Kd.C (Kd.int .i64) W A v.length v)) := ⟨HV.out.step (.of_below HBc)⟩; clear BK_q SL XT HV; have BK_q := BK_qn; have SL := SLn; have XT := XTn; have HV := HVn; clear BK_qn SLn XTn HVn; have BK_z : Aside0 (w2.heap[z]? = some (.cells #[.slice none 0 0, .int .i64 0] 30 (0, 0))) := ⟨hbox⟩; clear hbox HBc; have lc2_0 : w2.cell? ⟨z, 0, none⟩ = some (.slice none 0 0) := (blk_cell BK_z.out 0).trans rfl; have lf2_0 := blk_frozen BK_z.out 0; have lc2_1 : w2.cell? ⟨z, 1, none⟩ = some (.int .i64 0) := (blk_cell BK_z.out 1).trans rfl; have lf2_1 := blk_frozen BK_z.out 1; have lc3_0 : w2.cell? ⟨q, 0, none⟩ = some (.int .i64 1) := (blk_cell BK_q.out 0).trans rfl; have lf3_0 := blk_frozen BK_q.out 0; have lc3_1 : w2.cell? ⟨q, 1, none⟩ = some (.int .i64 (a : Int)) := (blk_cell BK_q.out 1).trans rfl; have lf3_1 := blk_frozen BK_q.out 1; have lc3_2 : w2.cell? ⟨q, 2, none⟩ = some (.int .i64 (c : Int)) := (blk_cell BK_q.out 2).trans rfl; have lf3_2 := blk_frozen BK_q.out 2; have lc3_3 : w2.cell? ⟨q, 3, none⟩ = some (.slice A 0 cc) := (blk_cell BK_q.out 3).trans rfl; have lf3_3 := blk_frozen BK_q.out 3; have lc3_4 : w2.cell? ⟨q, 4, none⟩ = some (.int .i64 t) := (blk_cell BK_q.out 4).trans rfl; have lf3_4 := blk_frozen BK_q.out 4; have lc3_5 : w2.cell? ⟨q, 5, none⟩ = some (.int .i64 n) := (blk_cell BK_q.out 5).trans rfl; have lf3_5 := blk_frozen BK_q.out 5; have lc3_6 : w2.cell? ⟨q, 6, none⟩ = some (.int .i64 o) := (blk_cell BK_q.out 6).trans rfl; have lf3_6 := blk_frozen BK_q.out 6) | (go_at_call 29; refine (chk_n HN.out HV.out.now HCK.out rfl).mono ?_; rintro e w3 ⟨rfl, HBc⟩; have BK_qn : Aside0 (w3.heap[q]? = some (.cells #[.int .i64 1, .int .i64 (a : Int), .int .i64 (c : Int), .slice A 0 cc, .int .i64 t, .int .i64 n, .int .i64 o] 24 (0, 0))) := ⟨blk_below BK_q.out HBc⟩; have BK_zn : Aside0 (w3.heap[z]? = some (.cells #[.slice none 0 0, .int .i64 0] 30 (0, 0))) := ⟨blk_below BK_z.out HBc⟩; have SLn : Aside0 (IsSlv 77 w3 g R (X)) := ⟨SL.out.below HBc⟩; have XTn : Aside0 (Ext (Fp g R) w w3) := ⟨XT.out.stepB HBc⟩; have HVn : Aside0 (Ever (Fp g R) w3 (fun W => Kd.C (Kd.int .i64) W A v.length v)) := ⟨HV.out.step (.of_below HBc)⟩; clear BK_q BK_z SL XT HV; have BK_q := BK_qn; have BK_z := BK_zn; have SL := SLn; have XT := XTn; have HV := HVn; clear BK_qn BK_zn SLn XTn HVn; clear HBc; have lc4_0 : w3.cell? ⟨q, 0, none⟩ = some (.int .i64 1) := (blk_cell BK_q.out 0).trans rfl; have lf4_0 := blk_frozen BK_q.out 0; have lc4_1 : w3.cell? ⟨q, 1, none⟩ = some (.int .i64 (a : Int)) := (blk_cell BK_q.out 1).trans rfl; have lf4_1 := blk_frozen BK_q.out 1; have lc4_2 : w3.cell? ⟨q, 2, none⟩ = some (.int .i64 (c : Int)) := (blk_cell BK_q.out 2).trans rfl; have lf4_2 := blk_frozen BK_q.out 2; have lc4_3 : w3.cell? ⟨q, 3, none⟩ = some (.slice A 0 cc) := (blk_cell BK_q.out 3).trans rfl; have lf4_3 := blk_frozen BK_q.out 3; have lc4_4 : w3.cell? ⟨q, 4, none⟩ = some (.int .i64 t) := (blk_cell BK_q.out 4).trans rfl; have lf4_4 := blk_frozen BK_q.out 4; have lc4_5 : w3.cell? ⟨q, 5, none⟩ = some (.int .i64 n) := (blk_cell BK_q.out 5).trans rfl; have lf4_5 := blk_frozen BK_q.out 5; have lc4_6 : w3.cell? ⟨q, 6, none⟩ = some (.int .i64 o) := (blk_cell BK_q.out 6).trans rfl; have lf4_6 := blk_frozen BK_q.out 6; have lc5_0 : w3.cell? ⟨z, 0, none⟩ = some (.slice none 0 0) := (blk_cell BK_z.out 0).trans rfl; have lf5_0 := blk_frozen BK_z.out 0; have lc5_1 : w3.cell? ⟨z, 1, none⟩ = some (.int .i64 0) := (blk_cell BK_z.out 1).trans rfl; have lf5_1 := blk_frozen BK_z.out 1) | (go_at_call 41; refine (part_neg SL.out (K := 0) (by omega) HB.out HLT.out rfl).mono ?_; rintro e w' ⟨rfl, rfl⟩) | ((with_reducible refine gate_store (p := 4) rfl ?_); refine store_event (w1 := ?_) rfl (p := 4) rfl rfl ?hr ?_; rotate_left; (case hr => go_simp; rfl); intro w4 hw_; obtain ⟨hput, HEc⟩ := put2 hw_ BK_z.out; clear hw_; have BK_qn : Aside0 (w4.heap[q]? = some (.cells #[.int .i64 1, .int .i64 (a : Int), .int .i64 (c : Int), .slice A 0 cc, .int .i64 t, .int .i64 n, .int .i64 o] 24 (0, 0))) := ⟨Ext.blk HEc BK_q.out NE_q_z.out⟩; have SLn : Aside0 (IsSlv 77 w4 g R (X)) := ⟨SL.out.ext HEc (fun k hk e => NS_z.out k hk e)⟩; have XTn : Aside0 (Ext (Fp g R) w w4) := ⟨XT.out.step HEc (fun k e => .inr (by rw [show k = z from e]; exact RG_z.out))⟩; clear BK_q SL XT; have BK_q := BK_qn; have SL := SLn; have XT := XTn; clear BK_qn SLn XTn; clear BK_z HV; have BK_z : Aside0 (w4.heap[z]? = some (.cells #[.slice none 0 0, .int .i64 2] 30 (0, 0))) := ⟨hput⟩; have HST := Aside0.mk HEc; clear hput HEc))
  refine bodyPost_ret (results_ct rfl _ _ z 30 #[.slice none 0 0, .int .i64 2] (0, 0) _ rfl BK_z.out Try.underlying30 rfl (by kernel_rfl)) rfl ?_
  exact ⟨none, 0, rfl, Nat.le_refl _, SL.out, XT.out, fun M hM => Ever.nil _⟩
set_option maxHeartbeats 4000000 in
set_option maxRecDepth 100000 in
theorem do_r0_yes {w : World} {g : Nat} {R : Nat → Nat} {X : Nat → List Int} (h : IsSlv 77 w g R X) {A : Option Addr} {cc : Nat} {v : List Int} (hn : v.length = 0) (hV : Ever (Fp g R) w (fun W => Kd.C (Kd.int .i64) W A v.length v)) {a c : Nat} {t n o : Int} (hck : Chk.chkB 1 (a : Int) (c : Int) v t n o = true) (hb : a ≤ 1000000 ∧ c ≤ 1000000) (hpos : 0 < c) (hfit : a + c ≤ (X 0).length) : Calls Try.prog 15 #[.pointer (some ⟨g, 0, none⟩), .agg #[.int .i64 1, .int .i64 (a : Int), .int .i64 (c : Int), .slice A 0 cc, .int .i64 t, .int .i64 n, .int .i64 o]] w fun e w' => ∃ AA cA, e = .returned (.tuple #[.agg #[.slice AA (rdAt (X 0) a c).length cA, .int .i64 0], .int .i64 0]) ∧ (rdAt (X 0) a c).length ≤ cA ∧ IsSlv 77 w' g R (X) ∧ Ext (Fp g R) w w' ∧ IsAns w w' AA (rdAt (X 0) a c) := by
  have SL : Aside0 (IsSlv 77 w g R (X)) := ⟨h⟩; have XT : Aside0 (Ext (Fp g R) w w) := ⟨Ext.refl _ _⟩; have HV := Aside0.mk hV; have HN := Aside0.mk hn
  have HCK := Aside0.mk hck
  obtain ⟨xs, hxs⟩ : ∃ xs, X 0 = xs := ⟨_, rfl⟩; obtain ⟨r, hr⟩ : ∃ r, R 0 = r := ⟨_, rfl⟩; have HXS := Aside0.mk hxs; have HR := Aside0.mk hr
  obtain ⟨L, hL⟩ : ∃ L, (X 0).length = L := ⟨_, rfl⟩; have HL := Aside0.mk hL
  obtain ⟨qq, hqq⟩ : ∃ q, L - a = q := ⟨_, rfl⟩; have HQQ := Aside0.mk hqq
  have HB := Aside0.mk hb; have HFIT := Aside0.mk hfit; have HPOS := Aside0.mk hpos
  rw [hxs]
  clear h hV hn hck hb hfit hpos hxs hr hL hqq
  go_enter Try.func15, Try.ntmps15
  go_wp2_with (first | ((with_reducible refine gate_dst (N := 3) rfl ?_); refine box_event ?hg (N := 3) ?hd (cs := #[.int .i64 1, .int .i64 (a : Int), .int .i64 (c : Int), .slice A 0 cc, .int .i64 t, .int .i64 n, .int .i64 o]) (t := 24) ?hr ?_; (case hd => rfl); (case hg => rfl); (case hr => first | (go_simp; done) | (go_simp; rfl)); intro q hg w1 hbox HBc; have NS_q : Aside0 (∀ k, Fp g R k → k ≠ q) := ⟨fun k hk e => by have := SL.out.lt k hk; omega⟩; have RG_q : Aside0 (w.heap.size ≤ q) := ⟨Nat.le_trans XT.out.size (Nat.le_of_eq hg.symm)⟩; clear hg; have SLn : Aside0 (IsSlv 77 w1 g R (X)) := ⟨SL.out.below HBc⟩; have XTn : Aside0 (Ext (Fp g R) w w1) := ⟨XT.out.stepB HBc⟩; have HVn : Aside0 (Ever (Fp g R) w1 (fun W => Kd.C (Kd.int .i64) W A v.length v)) := ⟨HV.out.step (.of_below HBc)⟩; clear SL XT HV; have SL := SLn; have XT := XTn; have HV := HVn; clear SLn XTn HVn; have BK_q : Aside0 (w1.heap[q]? = some (.cells #[.int .i64 1, .int .i64 (a : Int), .int .i64 (c : Int), .slice A 0 cc, .int .i64 t, .int .i64 n, .int .i64 o] 24 (0, 0))) := ⟨hbox⟩; clear hbox HBc; have lc1_0 : w1.cell? ⟨q, 0, none⟩ = some (.int .i64 1) := (blk_cell BK_q.out 0).trans rfl; have lf1_0 := blk_frozen BK_q.out 0; have lc1_1 : w1.cell? ⟨q, 1, none⟩ = some (.int .i64 (a : Int)) := (blk_cell BK_q.out 1).trans rfl; have lf1_1 := blk_frozen BK_q.out 1; have lc1_2 : w1.cell? ⟨q, 2, none⟩ = some (.int .i64 (c : Int)) := (blk_cell BK_q.out 2).trans rfl; have lf1_2 := blk_frozen BK_q.out 2; have lc1_3 : w1.cell? ⟨q, 3, none⟩ = some (.slice A 0 cc) := (blk_cell BK_q.out 3).trans rfl; have lf1_3 := blk_frozen BK_q.out 3; have lc1_4 : w1.cell? ⟨q, 4, none⟩ = some (.int .i64 t) := (blk_cell BK_q.out 4).trans rfl; have lf1_4 := blk_frozen BK_q.out 4; have lc1_5 : w1.cell? ⟨q, 5, none⟩ = some (.int .i64 n) := (blk_cell BK_q.out 5).trans rfl; have lf1_5 := blk_frozen BK_q.out 5; have lc1_6 : w1.cell? ⟨q, 6, none⟩ = some (.int .i64 o) := (blk_cell BK_q.out 6).trans rfl; have lf1_6 := blk_frozen BK_q.out 6) | ((with_reducible refine gate_dst (N := 4) rfl ?_); refine box_event ?hg (N := 4) ?hd (cs := #[.slice none 0 0, .int .i64 0]) (t := 30) ?hr ?_; (case hd => rfl); (case hg => rfl); (case hr => first | (go_simp; done) | (go_simp; rfl)); intro z hg w2 hbox HBc; have NS_z : Aside0 (∀ k, Fp g R k → k ≠ z) := ⟨fun k hk e => by have := SL.out.lt k hk; omega⟩; have RG_z : Aside0 (w.heap.size ≤ z) := ⟨Nat.le_trans XT.out.size (Nat.le_of_eq hg.symm)⟩; have NE_q_z : Aside0 (q ≠ z) := ⟨ne_born (blk_lt BK_q.out) hg⟩; clear hg; have BK_qn : Aside0 (w2.heap[q]? = some (.cells #[.int .i64 1, .int .i64 (a : Int), .int .i64 (c : Int), .slice A 0 cc, .int .i64 t, .int .i64 n, .int .i64 o] 24 (0, 0))) := ⟨blk_below BK_q.out HBc⟩; have SLn : Aside0 (IsSlv 77 w2 g R (X)) := ⟨SL.out.below HBc⟩; have XTn : Aside0 (Ext (Fp g R) w w2) := ⟨XT.out.stepB HBc⟩; have HVn : Aside0 (Ever (Fp g R) w2 (fun W => Kd.C (Kd.int .i64) W A v.length v)) := ⟨HV.out.step (.of_below HBc)⟩; clear BK_q SL XT HV; have BK_q := BK_qn; have SL := SLn; have XT := XTn; have HV := HVn; clear BK_qn SLn XTn HVn; have BK_z : Aside0 (w2.heap[z]? = some (.cells #[.slice none 0 0, .int .i64 0] 30 (0, 0))) := ⟨hbox⟩; clear hbox HBc; have lc2_0 : w2.cell? ⟨z, 0, none⟩ = some (.slice none 0 0) := (blk_cell BK_z.out 0).trans rfl; have lf2_0 := blk_frozen BK_z.out 0; have lc2_1 : w2.cell? ⟨z, 1, none⟩ = some (.int .i64 0) := (blk_cell BK_z.out 1).trans rfl; have lf2_1 := blk_frozen BK_z.out 1; have lc3_0 : w2.cell? ⟨q, 0, none⟩ = some (.int .i64 1) := (blk_cell BK_q.out 0).trans rfl; have lf3_0 := blk_frozen BK_q.out 0; have lc3_1 : w2.cell? ⟨q, 1, none⟩ = some (.int .i64 (a : Int)) := (blk_cell BK_q.out 1).trans rfl; have lf3_1 := blk_frozen BK_q.out 1; have lc3_2 : w2.cell? ⟨q, 2, none⟩ = some (.int .i64 (c : Int)) := (blk_cell BK_q.out 2).trans rfl; have lf3_2 := blk_frozen BK_q.out 2; have lc3_3 : w2.cell? ⟨q, 3, none⟩ = some (.slice A 0 cc) := (blk_cell BK_q.out 3).trans rfl; have lf3_3 := blk_frozen BK_q.out 3; have lc3_4 : w2.cell? ⟨q, 4, none⟩ = some (.int .i64 t) := (blk_cell BK_q.out 4).trans rfl; have lf3_4 := blk_frozen BK_q.out 4; have lc3_5 : w2.cell? ⟨q, 5, none⟩ = some (.int .i64 n) := (blk_cell BK_q.out 5).trans rfl; have lf3_5 := blk_frozen BK_q.out 5; have lc3_6 : w2.cell? ⟨q, 6, none⟩ = some (.int .i64 o) := (blk_cell BK_q.out 6).trans rfl; have lf3_6 := blk_frozen BK_q.out 6) | (go_at_call 29; refine (chk_n HN.out HV.out.now HCK.out rfl).mono ?_; rintro e w3 ⟨rfl, HBc⟩; have BK_qn : Aside0 (w3.heap[q]? = some (.cells #[.int .i64 1, .int .i64 (a : Int), .int .i64 (c : Int), .slice A 0 cc, .int .i64 t, .int .i64 n, .int .i64 o] 24 (0, 0))) := ⟨blk_below BK_q.out HBc⟩; have BK_zn : Aside0 (w3.heap[z]? = some (.cells #[.slice none 0 0, .int .i64 0] 30 (0, 0))) := ⟨blk_below BK_z.out HBc⟩; have SLn : Aside0 (IsSlv 77 w3 g R (X)) := ⟨SL.out.below HBc⟩; have XTn : Aside0 (Ext (Fp g R) w w3) := ⟨XT.out.stepB HBc⟩; have HVn : Aside0 (Ever (Fp g R) w3 (fun W => Kd.C (Kd.int .i64) W A v.length v)) := ⟨HV.out.step (.of_below HBc)⟩; clear BK_q BK_z SL XT HV; have BK_q := BK_qn; have BK_z := BK_zn; have SL := SLn; have XT := XTn; have HV := HVn; clear BK_qn BK_zn SLn XTn HVn; clear HBc; have lc4_0 : w3.cell? ⟨q, 0, none⟩ = some (.int .i64 1) := (blk_cell BK_q.out 0).trans rfl; have lf4_0 := blk_frozen BK_q.out 0; have lc4_1 : w3.cell? ⟨q, 1, none⟩ = some (.int .i64 (a : Int)) := (blk_cell BK_q.out 1).trans rfl; have lf4_1 := blk_frozen BK_q.out 1; have lc4_2 : w3.cell? ⟨q, 2, none⟩ = some (.int .i64 (c : Int)) := (blk_cell BK_q.out 2).trans rfl; have lf4_2 := blk_frozen BK_q.out 2; have lc4_3 : w3.cell? ⟨q, 3, none⟩ = some (.slice A 0 cc) := (blk_cell BK_q.out 3).trans rfl; have lf4_3 := blk_frozen BK_q.out 3; have lc4_4 : w3.cell? ⟨q, 4, none⟩ = some (.int .i64 t) := (blk_cell BK_q.out 4).trans rfl; have lf4_4 := blk_frozen BK_q.out 4; have lc4_5 : w3.cell? ⟨q, 5, none⟩ = some (.int .i64 n) := (blk_cell BK_q.out 5).trans rfl; have lf4_5 := blk_frozen BK_q.out 5; have lc4_6 : w3.cell? ⟨q, 6, none⟩ = some (.int .i64 o) := (blk_cell BK_q.out 6).trans rfl; have lf4_6 := blk_frozen BK_q.out 6; have lc5_0 : w3.cell? ⟨z, 0, none⟩ = some (.slice none 0 0) := (blk_cell BK_z.out 0).trans rfl; have lf5_0 := blk_frozen BK_z.out 0; have lc5_1 : w3.cell? ⟨z, 1, none⟩ = some (.int .i64 0) := (blk_cell BK_z.out 1).trans rfl; have lf5_1 := blk_frozen BK_z.out 1) | (go_at_call 41; refine (part_pos SL.out (K := 0) (by omega) HB.out HFIT.out HPOS.out HR.out HL.out HQQ.out rfl).mono ?_; rintro e w' ⟨rfl, rfl⟩) | ((with_reducible refine gate_builtin (b := .copy) (xs := #[.tmp 97, .tmp 99]) rfl ?_); refine copy_none_ev (D := none) (n := 0) (c := 0) (A := A) (m := 0) (c2 := cc) rfl (.tmp 97) (.tmp 99) rfl Try.underlying22 one3 rfl rfl (by decide) ?_) | ((with_reducible refine gate_builtin (b := .append) (xs := #[.const (.slice none 0 0), .tmp 118]) rfl ?_); refine ev_append_rows (M := Mv (fun _ => False) (.slice none 0 0)) (Kd.int .i64) (w0 := w3) (w3.heap.size) rfl (.const (.slice none 0 0)) (.tmp 118) 22 3 (.int .i64 0) 8 rfl Try.underlying22 info3 rfl (by decide) (by decide) (.slice none 0 0) [] (rdAt xs a c) (some ⟨r, a, none⟩) (c) (qq) rfl rfl (OwnE.nil _ _ _ _ _) (RowE.elems (RowE.old (by have hrow := SL.out.row 0 (by omega); rw [HR.out, HXS.out] at hrow; have := C_sub hrow (a := a) (c := c) (by rw [← HXS.out]; exact HFIT.out) (by have := HB.out; omega); rw [rdAt_len (by rw [← HXS.out]; exact HFIT.out)] at this; exact this) (fun k hk => by rcases hk with (hk | hk) | hk; exact hk.elim; cases hk; cases hk))) (Below.refl _ _) (Nat.le_refl _) (by have := HB.out; simp only [List.length_nil]; omega) ?_; intro vv w4 HO_ HBc hgr_ _; obtain ⟨AA, cA, rfl, hcA, hAns⟩ := own_ints HO_; clear HO_ hgr_; rw [List.nil_append] at hcA hAns ⊢; have HCA := Aside0.mk hcA; have HANS : Aside0 (∀ M : Nat → Prop, (∀ k, M k → k < w3.heap.size) → Ever M w4 (fun W => Kd.C (Kd.int .i64) W AA (rdAt xs a c).length (rdAt xs a c))) := ⟨hAns⟩; have HZL : Aside0 (z < w3.heap.size ∧ w.heap.size ≤ w3.heap.size) := ⟨blk_lt BK_z.out, XT.out.size⟩; clear hAns hcA; have BK_qn : Aside0 (w4.heap[q]? = some (.cells #[.int .i64 1, .int .i64 (a : Int), .int .i64 (c : Int), .slice A 0 cc, .int .i64 t, .int .i64 n, .int .i64 o] 24 (0, 0))) := ⟨blk_below BK_q.out HBc⟩; have BK_zn : Aside0 (w4.heap[z]? = some (.cells #[.slice none 0 0, .int .i64 0] 30 (0, 0))) := ⟨blk_below BK_z.out HBc⟩; have SLn : Aside0 (IsSlv 77 w4 g R (X)) := ⟨SL.out.below HBc⟩; have XTn : Aside0 (Ext (Fp g R) w w4) := ⟨XT.out.stepB HBc⟩; have HVn : Aside0 (Ever (Fp g R) w4 (fun W => Kd.C (Kd.int .i64) W A v.length v)) := ⟨HV.out.step (.of_below HBc)⟩; clear BK_q BK_z SL XT HV; have BK_q := BK_qn; have BK_z := BK_zn; have SL := SLn; have XT := XTn; have HV := HVn; clear BK_qn BK_zn SLn XTn HVn; clear HBc; have lc6_0 : w4.cell? ⟨z, 0, none⟩ = some (.slice none 0 0) := (blk_cell BK_z.out 0).trans rfl; have lf6_0 := blk_frozen BK_z.out 0; have lc6_1 : w4.cell? ⟨z, 1, none⟩ = some (.int .i64 0) := (blk_cell BK_z.out 1).trans rfl; have lf6_1 := blk_frozen BK_z.out 1) | ((with_reducible refine gate_store (p := 4) rfl ?_); refine store_event (w1 := ?_) rfl (p := 4) rfl rfl ?hr ?_; rotate_left; (case hr => go_simp; rfl); intro w5 hw_; obtain ⟨hput, HEc⟩ := put2 hw_ BK_z.out; clear hw_; have BK_qn : Aside0 (w5.heap[q]? = some (.cells #[.int .i64 1, .int .i64 (a : Int), .int .i64 (c : Int), .slice A 0 cc, .int .i64 t, .int .i64 n, .int .i64 o] 24 (0, 0))) := ⟨Ext.blk HEc BK_q.out NE_q_z.out⟩; have SLn : Aside0 (IsSlv 77 w5 g R (X)) := ⟨SL.out.ext HEc (fun k hk e => NS_z.out k hk e)⟩; have XTn : Aside0 (Ext (Fp g R) w w5) := ⟨XT.out.step HEc (fun k e => .inr (by rw [show k = z from e]; exact RG_z.out))⟩; clear BK_q SL XT; have BK_q := BK_qn; have SL := SLn; have XT := XTn; clear BK_qn SLn XTn; clear BK_z HV; have BK_z : Aside0 (w5.heap[z]? = some (.cells #[.slice AA (rdAt xs a c).length cA, .int .i64 0] 30 (0, 0))) := ⟨hput⟩; have HST := Aside0.mk HEc; clear hput HEc))
  refine bodyPost_ret (results_ct rfl _ _ z 30 #[.slice AA (rdAt xs a c).length cA, .int .i64 0] (0, 0) _ rfl BK_z.out Try.underlying30 rfl (by kernel_rfl)) rfl ?_
  exact ⟨AA, cA, rfl, HCA.out, SL.out, XT.out, fun M hM => (HANS.out (fun k => M k ∨ k = z) (fun k hk => by rcases hk with hk | hk; exact Nat.lt_of_lt_of_le (hM k hk) HZL.out.2; rw [hk]; exact HZL.out.1)).grow (HST.out.sub (fun k e => .inr e)) (fun k hk => .inl (.inl hk))⟩
set_option maxHeartbeats 4000000 in
set_option maxRecDepth 100000 in
theorem do_r1_no {w : World} {g : Nat} {R : Nat → Nat} {X : Nat → List Int} (h : IsSlv 77 w g R X) {A : Option Addr} {cc : Nat} {v : List Int} (hn : v.length = 0) (hV : Ever (Fp g R) w (fun W => Kd.C (Kd.int .i64) W A v.length v)) {a c : Nat} {t n o : Int} (hck : Chk.chkB 2 (a : Int) (c : Int) v t n o = true) (hb : a ≤ 1000000 ∧ c ≤ 1000000) (hlt : (X 1).length < a + c) : Calls Try.prog 15 #[.pointer (some ⟨g, 0, none⟩), .agg #[.int .i64 2, .int .i64 (a : Int), .int .i64 (c : Int), .slice A 0 cc, .int .i64 t, .int .i64 n, .int .i64 o]] w fun e w' => ∃ AA cA, e = .returned (.tuple #[.agg #[.slice AA (([] : List Int)).length cA, .int .i64 2], .int .i64 0]) ∧ (([] : List Int)).length ≤ cA ∧ IsSlv 77 w' g R (X) ∧ Ext (Fp g R) w w' ∧ IsAns w w' AA (([] : List Int)) := by
  have SL : Aside0 (IsSlv 77 w g R (X)) := ⟨h⟩; have XT : Aside0 (Ext (Fp g R) w w) := ⟨Ext.refl _ _⟩; have HV := Aside0.mk hV; have HN := Aside0.mk hn
  have HCK := Aside0.mk hck
  obtain ⟨xs, hxs⟩ : ∃ xs, X 1 = xs := ⟨_, rfl⟩; obtain ⟨r, hr⟩ : ∃ r, R 1 = r := ⟨_, rfl⟩; have HXS := Aside0.mk hxs; have HR := Aside0.mk hr
  obtain ⟨L, hL⟩ : ∃ L, (X 1).length = L := ⟨_, rfl⟩; have HL := Aside0.mk hL
  obtain ⟨qq, hqq⟩ : ∃ q, L - a = q := ⟨_, rfl⟩; have HQQ := Aside0.mk hqq
  have HB := Aside0.mk hb; have HLT := Aside0.mk hlt
  clear h hV hn hck hb hlt hxs hr hL hqq
  go_enter Try.func15, Try.ntmps15
  go_wp2_with (first | ((with_reducible refine gate_dst (N := 3) rfl ?_); refine box_event ?hg (N := 3) ?hd (cs := #[.int .i64 2, .int .i64 (a : Int), .int .i64 (c : Int), .slice A 0 cc, .int .i64 t, .int .i64 n, .int .i64 o]) (t := 24) ?hr ?_; (case hd => rfl); (case hg => rfl); (case hr => first | (go_simp; done) | (go_simp; rfl)); intro q hg w1 hbox HBc; have NS_q : Aside0 (∀ k, Fp g R k → k ≠ q) := ⟨fun k hk e => by have := SL.out.lt k hk; omega⟩; have RG_q : Aside0 (w.heap.size ≤ q) := ⟨Nat.le_trans XT.out.size (Nat.le_of_eq hg.symm)⟩; clear hg; have SLn : Aside0 (IsSlv 77 w1 g R (X)) := ⟨SL.out.below HBc⟩; have XTn : Aside0 (Ext (Fp g R) w w1) := ⟨XT.out.stepB HBc⟩; have HVn : Aside0 (Ever (Fp g R) w1 (fun W => Kd.C (Kd.int .i64) W A v.length v)) := ⟨HV.out.step (.of_below HBc)⟩; clear SL XT HV; have SL := SLn; have XT := XTn; have HV := HVn; clear SLn XTn HVn; have BK_q : Aside0 (w1.heap[q]? = some (.cells #[.int .i64 2, .int .i64 (a : Int), .int .i64 (c : Int), .slice A 0 cc, .int .i64 t, .int .i64 n, .int .i64 o] 24 (0, 0))) := ⟨hbox⟩; clear hbox HBc; have lc1_0 : w1.cell? ⟨q, 0, none⟩ = some (.int .i64 2) := (blk_cell BK_q.out 0).trans rfl; have lf1_0 := blk_frozen BK_q.out 0; have lc1_1 : w1.cell? ⟨q, 1, none⟩ = some (.int .i64 (a : Int)) := (blk_cell BK_q.out 1).trans rfl; have lf1_1 := blk_frozen BK_q.out 1; have lc1_2 : w1.cell? ⟨q, 2, none⟩ = some (.int .i64 (c : Int)) := (blk_cell BK_q.out 2).trans rfl; have lf1_2 := blk_frozen BK_q.out 2; have lc1_3 : w1.cell? ⟨q, 3, none⟩ = some (.slice A 0 cc) := (blk_cell BK_q.out 3).trans rfl; have lf1_3 := blk_frozen BK_q.out 3; have lc1_4 : w1.cell? ⟨q, 4, none⟩ = some (.int .i64 t) := (blk_cell BK_q.out 4).trans rfl; have lf1_4 := blk_frozen BK_q.out 4; have lc1_5 : w1.cell? ⟨q, 5, none⟩ = some (.int .i64 n) := (blk_cell BK_q.out 5).trans rfl; have lf1_5 := blk_frozen BK_q.out 5; have lc1_6 : w1.cell? ⟨q, 6, none⟩ = some (.int .i64 o) := (blk_cell BK_q.out 6).trans rfl; have lf1_6 := blk_frozen BK_q.out 6) | ((with_reducible refine gate_dst (N := 4) rfl ?_); refine box_event ?hg (N := 4) ?hd (cs := #[.slice none 0 0, .int .i64 0]) (t := 30) ?hr ?_; (case hd => rfl); (case hg => rfl); (case hr => first | (go_simp; done) | (go_simp; rfl)); intro z hg w2 hbox HBc; have NS_z : Aside0 (∀ k, Fp g R k → k ≠ z) := ⟨fun k hk e => by have := SL.out.lt k hk; omega⟩; have RG_z : Aside0 (w.heap.size ≤ z) := ⟨Nat.le_trans XT.out.size (Nat.le_of_eq hg.symm)⟩; have NE_q_z : Aside0 (q ≠ z) := ⟨ne_born (blk_lt BK_q.out) hg⟩; clear hg; have BK_qn : Aside0 (w2.heap[q]? = some (.cells #[.int .i64 2, .int .i64 (a : Int), .int .i64 (c : Int), .slice A 0 cc, .int .i64 t, .int .i64 n, .int .i64 o] 24 (0, 0))) := ⟨blk_below BK_q.out HBc⟩; have SLn : Aside0 (IsSlv 77 w2 g R (X)) := ⟨SL.out.below HBc⟩; have XTn : Aside0 (Ext (Fp g R) w w2) := ⟨XT.out.stepB HBc⟩; have HVn : Aside0 (Ever (Fp g R) w2 (fun W => Kd.C (Kd.int .i64) W A v.length v)) := ⟨HV.out.step (.of_below HBc)⟩; clear BK_q SL XT HV; have BK_q := BK_qn; have SL := SLn; have XT := XTn; have HV := HVn; clear BK_qn SLn XTn HVn; have BK_z : Aside0 (w2.heap[z]? = some (.cells #[.slice none 0 0, .int .i64 0] 30 (0, 0))) := ⟨hbox⟩; clear hbox HBc; have lc2_0 : w2.cell? ⟨z, 0, none⟩ = some (.slice none 0 0) := (blk_cell BK_z.out 0).trans rfl; have lf2_0 := blk_frozen BK_z.out 0; have lc2_1 : w2.cell? ⟨z, 1, none⟩ = some (.int .i64 0) := (blk_cell BK_z.out 1).trans rfl; have lf2_1 := blk_frozen BK_z.out 1; have lc3_0 : w2.cell? ⟨q, 0, none⟩ = some (.int .i64 2) := (blk_cell BK_q.out 0).trans rfl; have lf3_0 := blk_frozen BK_q.out 0; have lc3_1 : w2.cell? ⟨q, 1, none⟩ = some (.int .i64 (a : Int)) := (blk_cell BK_q.out 1).trans rfl; have lf3_1 := blk_frozen BK_q.out 1; have lc3_2 : w2.cell? ⟨q, 2, none⟩ = some (.int .i64 (c : Int)) := (blk_cell BK_q.out 2).trans rfl; have lf3_2 := blk_frozen BK_q.out 2; have lc3_3 : w2.cell? ⟨q, 3, none⟩ = some (.slice A 0 cc) := (blk_cell BK_q.out 3).trans rfl; have lf3_3 := blk_frozen BK_q.out 3; have lc3_4 : w2.cell? ⟨q, 4, none⟩ = some (.int .i64 t) := (blk_cell BK_q.out 4).trans rfl; have lf3_4 := blk_frozen BK_q.out 4; have lc3_5 : w2.cell? ⟨q, 5, none⟩ = some (.int .i64 n) := (blk_cell BK_q.out 5).trans rfl; have lf3_5 := blk_frozen BK_q.out 5; have lc3_6 : w2.cell? ⟨q, 6, none⟩ = some (.int .i64 o) := (blk_cell BK_q.out 6).trans rfl; have lf3_6 := blk_frozen BK_q.out 6) | (go_at_call 29; refine (chk_n HN.out HV.out.now HCK.out rfl).mono ?_; rintro e w3 ⟨rfl, HBc⟩; have BK_qn : Aside0 (w3.heap[q]? = some (.cells #[.int .i64 2, .int .i64 (a : Int), .int .i64 (c : Int), .slice A 0 cc, .int .i64 t, .int .i64 n, .int .i64 o] 24 (0, 0))) := ⟨blk_below BK_q.out HBc⟩; have BK_zn : Aside0 (w3.heap[z]? = some (.cells #[.slice none 0 0, .int .i64 0] 30 (0, 0))) := ⟨blk_below BK_z.out HBc⟩; have SLn : Aside0 (IsSlv 77 w3 g R (X)) := ⟨SL.out.below HBc⟩; have XTn : Aside0 (Ext (Fp g R) w w3) := ⟨XT.out.stepB HBc⟩; have HVn : Aside0 (Ever (Fp g R) w3 (fun W => Kd.C (Kd.int .i64) W A v.length v)) := ⟨HV.out.step (.of_below HBc)⟩; clear BK_q BK_z SL XT HV; have BK_q := BK_qn; have BK_z := BK_zn; have SL := SLn; have XT := XTn; have HV := HVn; clear BK_qn BK_zn SLn XTn HVn; clear HBc; have lc4_0 : w3.cell? ⟨q, 0, none⟩ = some (.int .i64 2) := (blk_cell BK_q.out 0).trans rfl; have lf4_0 := blk_frozen BK_q.out 0; have lc4_1 : w3.cell? ⟨q, 1, none⟩ = some (.int .i64 (a : Int)) := (blk_cell BK_q.out 1).trans rfl; have lf4_1 := blk_frozen BK_q.out 1; have lc4_2 : w3.cell? ⟨q, 2, none⟩ = some (.int .i64 (c : Int)) := (blk_cell BK_q.out 2).trans rfl; have lf4_2 := blk_frozen BK_q.out 2; have lc4_3 : w3.cell? ⟨q, 3, none⟩ = some (.slice A 0 cc) := (blk_cell BK_q.out 3).trans rfl; have lf4_3 := blk_frozen BK_q.out 3; have lc4_4 : w3.cell? ⟨q, 4, none⟩ = some (.int .i64 t) := (blk_cell BK_q.out 4).trans rfl; have lf4_4 := blk_frozen BK_q.out 4; have lc4_5 : w3.cell? ⟨q, 5, none⟩ = some (.int .i64 n) := (blk_cell BK_q.out 5).trans rfl; have lf4_5 := blk_frozen BK_q.out 5; have lc4_6 : w3.cell? ⟨q, 6, none⟩ = some (.int .i64 o) := (blk_cell BK_q.out 6).trans rfl; have lf4_6 := blk_frozen BK_q.out 6; have lc5_0 : w3.cell? ⟨z, 0, none⟩ = some (.slice none 0 0) := (blk_cell BK_z.out 0).trans rfl; have lf5_0 := blk_frozen BK_z.out 0; have lc5_1 : w3.cell? ⟨z, 1, none⟩ = some (.int .i64 0) := (blk_cell BK_z.out 1).trans rfl; have lf5_1 := blk_frozen BK_z.out 1) | (go_at_call 41; refine (part_neg SL.out (K := 1) (by omega) HB.out HLT.out rfl).mono ?_; rintro e w' ⟨rfl, rfl⟩) | ((with_reducible refine gate_store (p := 4) rfl ?_); refine store_event (w1 := ?_) rfl (p := 4) rfl rfl ?hr ?_; rotate_left; (case hr => go_simp; rfl); intro w4 hw_; obtain ⟨hput, HEc⟩ := put2 hw_ BK_z.out; clear hw_; have BK_qn : Aside0 (w4.heap[q]? = some (.cells #[.int .i64 2, .int .i64 (a : Int), .int .i64 (c : Int), .slice A 0 cc, .int .i64 t, .int .i64 n, .int .i64 o] 24 (0, 0))) := ⟨Ext.blk HEc BK_q.out NE_q_z.out⟩; have SLn : Aside0 (IsSlv 77 w4 g R (X)) := ⟨SL.out.ext HEc (fun k hk e => NS_z.out k hk e)⟩; have XTn : Aside0 (Ext (Fp g R) w w4) := ⟨XT.out.step HEc (fun k e => .inr (by rw [show k = z from e]; exact RG_z.out))⟩; clear BK_q SL XT; have BK_q := BK_qn; have SL := SLn; have XT := XTn; clear BK_qn SLn XTn; clear BK_z HV; have BK_z : Aside0 (w4.heap[z]? = some (.cells #[.slice none 0 0, .int .i64 2] 30 (0, 0))) := ⟨hput⟩; have HST := Aside0.mk HEc; clear hput HEc))
  refine bodyPost_ret (results_ct rfl _ _ z 30 #[.slice none 0 0, .int .i64 2] (0, 0) _ rfl BK_z.out Try.underlying30 rfl (by kernel_rfl)) rfl ?_
  exact ⟨none, 0, rfl, Nat.le_refl _, SL.out, XT.out, fun M hM => Ever.nil _⟩
set_option maxHeartbeats 4000000 in
set_option maxRecDepth 100000 in
theorem do_r1_yes {w : World} {g : Nat} {R : Nat → Nat} {X : Nat → List Int} (h : IsSlv 77 w g R X) {A : Option Addr} {cc : Nat} {v : List Int} (hn : v.length = 0) (hV : Ever (Fp g R) w (fun W => Kd.C (Kd.int .i64) W A v.length v)) {a c : Nat} {t n o : Int} (hck : Chk.chkB 2 (a : Int) (c : Int) v t n o = true) (hb : a ≤ 1000000 ∧ c ≤ 1000000) (hpos : 0 < c) (hfit : a + c ≤ (X 1).length) : Calls Try.prog 15 #[.pointer (some ⟨g, 0, none⟩), .agg #[.int .i64 2, .int .i64 (a : Int), .int .i64 (c : Int), .slice A 0 cc, .int .i64 t, .int .i64 n, .int .i64 o]] w fun e w' => ∃ AA cA, e = .returned (.tuple #[.agg #[.slice AA (rdAt (X 1) a c).length cA, .int .i64 0], .int .i64 0]) ∧ (rdAt (X 1) a c).length ≤ cA ∧ IsSlv 77 w' g R (X) ∧ Ext (Fp g R) w w' ∧ IsAns w w' AA (rdAt (X 1) a c) := by
  have SL : Aside0 (IsSlv 77 w g R (X)) := ⟨h⟩; have XT : Aside0 (Ext (Fp g R) w w) := ⟨Ext.refl _ _⟩; have HV := Aside0.mk hV; have HN := Aside0.mk hn
  have HCK := Aside0.mk hck
  obtain ⟨xs, hxs⟩ : ∃ xs, X 1 = xs := ⟨_, rfl⟩; obtain ⟨r, hr⟩ : ∃ r, R 1 = r := ⟨_, rfl⟩; have HXS := Aside0.mk hxs; have HR := Aside0.mk hr
  obtain ⟨L, hL⟩ : ∃ L, (X 1).length = L := ⟨_, rfl⟩; have HL := Aside0.mk hL
  obtain ⟨qq, hqq⟩ : ∃ q, L - a = q := ⟨_, rfl⟩; have HQQ := Aside0.mk hqq
  have HB := Aside0.mk hb; have HFIT := Aside0.mk hfit; have HPOS := Aside0.mk hpos
  rw [hxs]
  clear h hV hn hck hb hfit hpos hxs hr hL hqq
  go_enter Try.func15, Try.ntmps15
  go_wp2_with (first | ((with_reducible refine gate_dst (N := 3) rfl ?_); refine box_event ?hg (N := 3) ?hd (cs := #[.int .i64 2, .int .i64 (a : Int), .int .i64 (c : Int), .slice A 0 cc, .int .i64 t, .int .i64 n, .int .i64 o]) (t := 24) ?hr ?_; (case hd => rfl); (case hg => rfl); (case hr => first | (go_simp; done) | (go_simp; rfl)); intro q hg w1 hbox HBc; have NS_q : Aside0 (∀ k, Fp g R k → k ≠ q) := ⟨fun k hk e => by have := SL.out.lt k hk; omega⟩; have RG_q : Aside0 (w.heap.size ≤ q) := ⟨Nat.le_trans XT.out.size (Nat.le_of_eq hg.symm)⟩; clear hg; have SLn : Aside0 (IsSlv 77 w1 g R (X)) := ⟨SL.out.below HBc⟩; have XTn : Aside0 (Ext (Fp g R) w w1) := ⟨XT.out.stepB HBc⟩; have HVn : Aside0 (Ever (Fp g R) w1 (fun W => Kd.C (Kd.int .i64) W A v.length v)) := ⟨HV.out.step (.of_below HBc)⟩; clear SL XT HV; have SL := SLn; have XT := XTn; have HV := HVn; clear SLn XTn HVn; have BK_q : Aside0 (w1.heap[q]? = some (.cells #[.int .i64 2, .int .i64 (a : Int), .int .i64 (c : Int), .slice A 0 cc, .int .i64 t, .int .i64 n, .int .i64 o] 24 (0, 0))) := ⟨hbox⟩; clear hbox HBc; have lc1_0 : w1.cell? ⟨q, 0, none⟩ = some (.int .i64 2) := (blk_cell BK_q.out 0).trans rfl; have lf1_0 := blk_frozen BK_q.out 0; have lc1_1 : w1.cell? ⟨q, 1, none⟩ = some (.int .i64 (a : Int)) := (blk_cell BK_q.out 1).trans rfl; have lf1_1 := blk_frozen BK_q.out 1; have lc1_2 : w1.cell? ⟨q, 2, none⟩ = some (.int .i64 (c : Int)) := (blk_cell BK_q.out 2).trans rfl; have lf1_2 := blk_frozen BK_q.out 2; have lc1_3 : w1.cell? ⟨q, 3, none⟩ = some (.slice A 0 cc) := (blk_cell BK_q.out 3).trans rfl; have lf1_3 := blk_frozen BK_q.out 3; have lc1_4 : w1.cell? ⟨q, 4, none⟩ = some (.int .i64 t) := (blk_cell BK_q.out 4).trans rfl; have lf1_4 := blk_frozen BK_q.out 4; have lc1_5 : w1.cell? ⟨q, 5, none⟩ = some (.int .i64 n) := (blk_cell BK_q.out 5).trans rfl; have lf1_5 := blk_frozen BK_q.out 5; have lc1_6 : w1.cell? ⟨q, 6, none⟩ = some (.int .i64 o) := (blk_cell BK_q.out 6).trans rfl; have lf1_6 := blk_frozen BK_q.out 6) | ((with_reducible refine gate_dst (N := 4) rfl ?_); refine box_event ?hg (N := 4) ?hd (cs := #[.slice none 0 0, .int .i64 0]) (t := 30) ?hr ?_; (case hd => rfl); (case hg => rfl); (case hr => first | (go_simp; done) | (go_simp; rfl)); intro z hg w2 hbox HBc; have NS_z : Aside0 (∀ k, Fp g R k → k ≠ z) := ⟨fun k hk e => by have := SL.out.lt k hk; omega⟩; have RG_z : Aside0 (w.heap.size ≤ z) := ⟨Nat.le_trans XT.out.size (Nat.le_of_eq hg.symm)⟩; have NE_q_z : Aside0 (q ≠ z) := ⟨ne_born (blk_lt BK_q.out) hg⟩; clear hg; have BK_qn : Aside0 (w2.heap[q]? = some (.cells #[.int .i64 2, .int .i64 (a : Int), .int .i64 (c : Int), .slice A 0 cc, .int .i64 t, .int .i64 n, .int .i64 o] 24 (0, 0))) := ⟨blk_below BK_q.out HBc⟩; have SLn : Aside0 (IsSlv 77 w2 g R (X)) := ⟨SL.out.below HBc⟩; have XTn : Aside0 (Ext (Fp g R) w w2) := ⟨XT.out.stepB HBc⟩; have HVn : Aside0 (Ever (Fp g R) w2 (fun W => Kd.C (Kd.int .i64) W A v.length v)) := ⟨HV.out.step (.of_below HBc)⟩; clear BK_q SL XT HV; have BK_q := BK_qn; have SL := SLn; have XT := XTn; have HV := HVn; clear BK_qn SLn XTn HVn; have BK_z : Aside0 (w2.heap[z]? = some (.cells #[.slice none 0 0, .int .i64 0] 30 (0, 0))) := ⟨hbox⟩; clear hbox HBc; have lc2_0 : w2.cell? ⟨z, 0, none⟩ = some (.slice none 0 0) := (blk_cell BK_z.out 0).trans rfl; have lf2_0 := blk_frozen BK_z.out 0; have lc2_1 : w2.cell? ⟨z, 1, none⟩ = some (.int .i64 0) := (blk_cell BK_z.out 1).trans rfl; have lf2_1 := blk_frozen BK_z.out 1; have lc3_0 : w2.cell? ⟨q, 0, none⟩ = some (.int .i64 2) := (blk_cell BK_q.out 0).trans rfl; have lf3_0 := blk_frozen BK_q.out 0; have lc3_1 : w2.cell? ⟨q, 1, none⟩ = some (.int .i64 (a : Int)) := (blk_cell BK_q.out 1).trans rfl; have lf3_1 := blk_frozen BK_q.out 1; have lc3_2 : w2.cell? ⟨q, 2, none⟩ = some (.int .i64 (c : Int)) := (blk_cell BK_q.out 2).trans rfl; have lf3_2 := blk_frozen BK_q.out 2; have lc3_3 : w2.cell? ⟨q, 3, none⟩ = some (.slice A 0 cc) := (blk_cell BK_q.out 3).trans rfl; have lf3_3 := blk_frozen BK_q.out 3; have lc3_4 : w2.cell? ⟨q, 4, none⟩ = some (.int .i64 t) := (blk_cell BK_q.out 4).trans rfl; have lf3_4 := blk_frozen BK_q.out 4; have lc3_5 : w2.cell? ⟨q, 5, none⟩ = some (.int .i64 n) := (blk_cell BK_q.out 5).trans rfl; have lf3_5 := blk_frozen BK_q.out 5; have lc3_6 : w2.cell? ⟨q, 6, none⟩ = some (.int .i64 o) := (blk_cell BK_q.out 6).trans rfl; have lf3_6 := blk_frozen BK_q.out 6) | (go_at_call 29; refine (chk_n HN.out HV.out.now HCK.out rfl).mono ?_; rintro e w3 ⟨rfl, HBc⟩; have BK_qn : Aside0 (w3.heap[q]? = some (.cells #[.int .i64 2, .int .i64 (a : Int), .int .i64 (c : Int), .slice A 0 cc, .int .i64 t, .int .i64 n, .int .i64 o] 24 (0, 0))) := ⟨blk_below BK_q.out HBc⟩; have BK_zn : Aside0 (w3.heap[z]? = some (.cells #[.slice none 0 0, .int .i64 0] 30 (0, 0))) := ⟨blk_below BK_z.out HBc⟩; have SLn : Aside0 (IsSlv 77 w3 g R (X)) := ⟨SL.out.below HBc⟩; have XTn : Aside0 (Ext (Fp g R) w w3) := ⟨XT.out.stepB HBc⟩; have HVn : Aside0 (Ever (Fp g R) w3 (fun W => Kd.C (Kd.int .i64) W A v.length v)) := ⟨HV.out.step (.of_below HBc)⟩; clear BK_q BK_z SL XT HV; have BK_q := BK_qn; have BK_z := BK_zn; have SL := SLn; have XT := XTn; have HV := HVn; clear BK_qn BK_zn SLn XTn HVn; clear HBc; have lc4_0 : w3.cell? ⟨q, 0, none⟩ = some (.int .i64 2) := (blk_cell BK_q.out 0).trans rfl; have lf4_0 := blk_frozen BK_q.out 0; have lc4_1 : w3.cell? ⟨q, 1, none⟩ = some (.int .i64 (a : Int)) := (blk_cell BK_q.out 1).trans rfl; have lf4_1 := blk_frozen BK_q.out 1; have lc4_2 : w3.cell? ⟨q, 2, none⟩ = some (.int .i64 (c : Int)) := (blk_cell BK_q.out 2).trans rfl; have lf4_2 := blk_frozen BK_q.out 2; have lc4_3 : w3.cell? ⟨q, 3, none⟩ = some (.slice A 0 cc) := (blk_cell BK_q.out 3).trans rfl; have lf4_3 := blk_frozen BK_q.out 3; have lc4_4 : w3.cell? ⟨q, 4, none⟩ = some (.int .i64 t) := (blk_cell BK_q.out 4).trans rfl; have lf4_4 := blk_frozen BK_q.out 4; have lc4_5 : w3.cell? ⟨q, 5, none⟩ = some (.int .i64 n) := (blk_cell BK_q.out 5).trans rfl; have lf4_5 := blk_frozen BK_q.out 5; have lc4_6 : w3.cell? ⟨q, 6, none⟩ = some (.int .i64 o) := (blk_cell BK_q.out 6).trans rfl; have lf4_6 := blk_frozen BK_q.out 6; have lc5_0 : w3.cell? ⟨z, 0, none⟩ = some (.slice none 0 0) := (blk_cell BK_z.out 0).trans rfl; have lf5_0 := blk_frozen BK_z.out 0; have lc5_1 : w3.cell? ⟨z, 1, none⟩ = some (.int .i64 0) := (blk_cell BK_z.out 1).trans rfl; have lf5_1 := blk_frozen BK_z.out 1) | (go_at_call 41; refine (part_pos SL.out (K := 1) (by omega) HB.out HFIT.out HPOS.out HR.out HL.out HQQ.out rfl).mono ?_; rintro e w' ⟨rfl, rfl⟩) | ((with_reducible refine gate_builtin (b := .copy) (xs := #[.tmp 97, .tmp 99]) rfl ?_); refine copy_none_ev (D := none) (n := 0) (c := 0) (A := A) (m := 0) (c2 := cc) rfl (.tmp 97) (.tmp 99) rfl Try.underlying22 one3 rfl rfl (by decide) ?_) | ((with_reducible refine gate_builtin (b := .append) (xs := #[.const (.slice none 0 0), .tmp 118]) rfl ?_); refine ev_append_rows (M := Mv (fun _ => False) (.slice none 0 0)) (Kd.int .i64) (w0 := w3) (w3.heap.size) rfl (.const (.slice none 0 0)) (.tmp 118) 22 3 (.int .i64 0) 8 rfl Try.underlying22 info3 rfl (by decide) (by decide) (.slice none 0 0) [] (rdAt xs a c) (some ⟨r, a, none⟩) (c) (qq) rfl rfl (OwnE.nil _ _ _ _ _) (RowE.elems (RowE.old (by have hrow := SL.out.row 1 (by omega); rw [HR.out, HXS.out] at hrow; have := C_sub hrow (a := a) (c := c) (by rw [← HXS.out]; exact HFIT.out) (by have := HB.out; omega); rw [rdAt_len (by rw [← HXS.out]; exact HFIT.out)] at this; exact this) (fun k hk => by rcases hk with (hk | hk) | hk; exact hk.elim; cases hk; cases hk))) (Below.refl _ _) (Nat.le_refl _) (by have := HB.out; simp only [List.length_nil]; omega) ?_; intro vv w4 HO_ HBc hgr_ _; obtain ⟨AA, cA, rfl, hcA, hAns⟩ := own_ints HO_; clear HO_ hgr_; rw [List.nil_append] at hcA hAns ⊢; have HCA := Aside0.mk hcA; have HANS : Aside0 (∀ M : Nat → Prop, (∀ k, M k → k < w3.heap.size) → Ever M w4 (fun W => Kd.C (Kd.int .i64) W AA (rdAt xs a c).length (rdAt xs a c))) := ⟨hAns⟩; have HZL : Aside0 (z < w3.heap.size ∧ w.heap.size ≤ w3.heap.size) := ⟨blk_lt BK_z.out, XT.out.size⟩; clear hAns hcA; have BK_qn : Aside0 (w4.heap[q]? = some (.cells #[.int .i64 2, .int .i64 (a : Int), .int .i64 (c : Int), .slice A 0 cc, .int .i64 t, .int .i64 n, .int .i64 o] 24 (0, 0))) := ⟨blk_below BK_q.out HBc⟩; have BK_zn : Aside0 (w4.heap[z]? = some (.cells #[.slice none 0 0, .int .i64 0] 30 (0, 0))) := ⟨blk_below BK_z.out HBc⟩; have SLn : Aside0 (IsSlv 77 w4 g R (X)) := ⟨SL.out.below HBc⟩; have XTn : Aside0 (Ext (Fp g R) w w4) := ⟨XT.out.stepB HBc⟩; have HVn : Aside0 (Ever (Fp g R) w4 (fun W => Kd.C (Kd.int .i64) W A v.length v)) := ⟨HV.out.step (.of_below HBc)⟩; clear BK_q BK_z SL XT HV; have BK_q := BK_qn; have BK_z := BK_zn; have SL := SLn; have XT := XTn; have HV := HVn; clear BK_qn BK_zn SLn XTn HVn; clear HBc; have lc6_0 : w4.cell? ⟨z, 0, none⟩ = some (.slice none 0 0) := (blk_cell BK_z.out 0).trans rfl; have lf6_0 := blk_frozen BK_z.out 0; have lc6_1 : w4.cell? ⟨z, 1, none⟩ = some (.int .i64 0) := (blk_cell BK_z.out 1).trans rfl; have lf6_1 := blk_frozen BK_z.out 1) | ((with_reducible refine gate_store (p := 4) rfl ?_); refine store_event (w1 := ?_) rfl (p := 4) rfl rfl ?hr ?_; rotate_left; (case hr => go_simp; rfl); intro w5 hw_; obtain ⟨hput, HEc⟩ := put2 hw_ BK_z.out; clear hw_; have BK_qn : Aside0 (w5.heap[q]? = some (.cells #[.int .i64 2, .int .i64 (a : Int), .int .i64 (c : Int), .slice A 0 cc, .int .i64 t, .int .i64 n, .int .i64 o] 24 (0, 0))) := ⟨Ext.blk HEc BK_q.out NE_q_z.out⟩; have SLn : Aside0 (IsSlv 77 w5 g R (X)) := ⟨SL.out.ext HEc (fun k hk e => NS_z.out k hk e)⟩; have XTn : Aside0 (Ext (Fp g R) w w5) := ⟨XT.out.step HEc (fun k e => .inr (by rw [show k = z from e]; exact RG_z.out))⟩; clear BK_q SL XT; have BK_q := BK_qn; have SL := SLn; have XT := XTn; clear BK_qn SLn XTn; clear BK_z HV; have BK_z : Aside0 (w5.heap[z]? = some (.cells #[.slice AA (rdAt xs a c).length cA, .int .i64 0] 30 (0, 0))) := ⟨hput⟩; have HST := Aside0.mk HEc; clear hput HEc))
  refine bodyPost_ret (results_ct rfl _ _ z 30 #[.slice AA (rdAt xs a c).length cA, .int .i64 0] (0, 0) _ rfl BK_z.out Try.underlying30 rfl (by kernel_rfl)) rfl ?_
  exact ⟨AA, cA, rfl, HCA.out, SL.out, XT.out, fun M hM => (HANS.out (fun k => M k ∨ k = z) (fun k hk => by rcases hk with hk | hk; exact Nat.lt_of_lt_of_le (hM k hk) HZL.out.2; rw [hk]; exact HZL.out.1)).grow (HST.out.sub (fun k e => .inr e)) (fun k hk => .inl (.inl hk))⟩
set_option maxHeartbeats 4000000 in
set_option maxRecDepth 100000 in
theorem do_r2_no {w : World} {g : Nat} {R : Nat → Nat} {X : Nat → List Int} (h : IsSlv 77 w g R X) {A : Option Addr} {cc : Nat} {v : List Int} (hn : v.length = 0) (hV : Ever (Fp g R) w (fun W => Kd.C (Kd.int .i64) W A v.length v)) {a c : Nat} {t n o : Int} (hck : Chk.chkB 3 (a : Int) (c : Int) v t n o = true) (hb : a ≤ 1000000 ∧ c ≤ 1000000) (hlt : (X 2).length < a + c) : Calls Try.prog 15 #[.pointer (some ⟨g, 0, none⟩), .agg #[.int .i64 3, .int .i64 (a : Int), .int .i64 (c : Int), .slice A 0 cc, .int .i64 t, .int .i64 n, .int .i64 o]] w fun e w' => ∃ AA cA, e = .returned (.tuple #[.agg #[.slice AA (([] : List Int)).length cA, .int .i64 2], .int .i64 0]) ∧ (([] : List Int)).length ≤ cA ∧ IsSlv 77 w' g R (X) ∧ Ext (Fp g R) w w' ∧ IsAns w w' AA (([] : List Int)) := by
  have SL : Aside0 (IsSlv 77 w g R (X)) := ⟨h⟩; have XT : Aside0 (Ext (Fp g R) w w) := ⟨Ext.refl _ _⟩; have HV := Aside0.mk hV; have HN := Aside0.mk hn
  have HCK := Aside0.mk hck
  obtain ⟨xs, hxs⟩ : ∃ xs, X 2 = xs := ⟨_, rfl⟩; obtain ⟨r, hr⟩ : ∃ r, R 2 = r := ⟨_, rfl⟩; have HXS := Aside0.mk hxs; have HR := Aside0.mk hr
  obtain ⟨L, hL⟩ : ∃ L, (X 2).length = L := ⟨_, rfl⟩; have HL := Aside0.mk hL
  obtain ⟨qq, hqq⟩ : ∃ q, L - a = q := ⟨_, rfl⟩; have HQQ := Aside0.mk hqq
  have HB := Aside0.mk hb; have HLT := Aside0.mk hlt
  clear h hV hn hck hb hlt hxs hr hL hqq
  go_enter Try.func15, Try.ntmps15
  go_wp2_with (first | ((with_reducible refine gate_dst (N := 3) rfl ?_); refine box_event ?hg (N := 3) ?hd (cs := #[.int .i64 3, .int .i64 (a : Int), .int .i64 (c : Int), .slice A 0 cc, .int .i64 t, .int .i64 n, .int .i64 o]) (t := 24) ?hr ?_; (case hd => rfl); (case hg => rfl); (case hr => first | (go_simp; done) | (go_simp; rfl)); intro q hg w1 hbox HBc; have NS_q : Aside0 (∀ k, Fp g R k → k ≠ q) := ⟨fun k hk e => by have := SL.out.lt k hk; omega⟩; have RG_q : Aside0 (w.heap.size ≤ q) := ⟨Nat.le_trans XT.out.size (Nat.le_of_eq hg.symm)⟩; clear hg; have SLn : Aside0 (IsSlv 77 w1 g R (X)) := ⟨SL.out.below HBc⟩; have XTn : Aside0 (Ext (Fp g R) w w1) := ⟨XT.out.stepB HBc⟩; have HVn : Aside0 (Ever (Fp g R) w1 (fun W => Kd.C (Kd.int .i64) W A v.length v)) := ⟨HV.out.step (.of_below HBc)⟩; clear SL XT HV; have SL := SLn; have XT := XTn; have HV := HVn; clear SLn XTn HVn; have BK_q : Aside0 (w1.heap[q]? = some (.cells #[.int .i64 3, .int .i64 (a : Int), .int .i64 (c : Int), .slice A 0 cc, .int .i64 t, .int .i64 n, .int .i64 o] 24 (0, 0))) := ⟨hbox⟩; clear hbox HBc; have lc1_0 : w1.cell? ⟨q, 0, none⟩ = some (.int .i64 3) := (blk_cell BK_q.out 0).trans rfl; have lf1_0 := blk_frozen BK_q.out 0; have lc1_1 : w1.cell? ⟨q, 1, none⟩ = some (.int .i64 (a : Int)) := (blk_cell BK_q.out 1).trans rfl; have lf1_1 := blk_frozen BK_q.out 1; have lc1_2 : w1.cell? ⟨q, 2, none⟩ = some (.int .i64 (c : Int)) := (blk_cell BK_q.out 2).trans rfl; have lf1_2 := blk_frozen BK_q.out 2; have lc1_3 : w1.cell? ⟨q, 3, none⟩ = some (.slice A 0 cc) := (blk_cell BK_q.out 3).trans rfl; have lf1_3 := blk_frozen BK_q.out 3; have lc1_4 : w1.cell? ⟨q, 4, none⟩ = some (.int .i64 t) := (blk_cell BK_q.out 4).trans rfl; have lf1_4 := blk_frozen BK_q.out 4; have lc1_5 : w1.cell? ⟨q, 5, none⟩ = some (.int .i64 n) := (blk_cell BK_q.out 5).trans rfl; have lf1_5 := blk_frozen BK_q.out 5; have lc1_6 : w1.cell? ⟨q, 6, none⟩ = some (.int .i64 o) := (blk_cell BK_q.out 6).trans rfl; have lf1_6 := blk_frozen BK_q.out 6) | ((with_reducible refine gate_dst (N := 4) rfl ?_); refine box_event ?hg (N := 4) ?hd (cs := #[.slice none 0 0, .int .i64 0]) (t := 30) ?hr ?_; (case hd => rfl); (case hg => rfl); (case hr => first | (go_simp; done) | (go_simp; rfl)); intro z hg w2 hbox HBc; have NS_z : Aside0 (∀ k, Fp g R k → k ≠ z) := ⟨fun k hk e => by have := SL.out.lt k hk; omega⟩; have RG_z : Aside0 (w.heap.size ≤ z) := ⟨Nat.le_trans XT.out.size (Nat.le_of_eq hg.symm)⟩; have NE_q_z : Aside0 (q ≠ z) := ⟨ne_born (blk_lt BK_q.out) hg⟩; clear hg; have BK_qn : Aside0 (w2.heap[q]? = some (.cells #[.int .i64 3, .int .i64 (a : Int), .int .i64 (c : Int), .slice A 0 cc, .int .i64 t, .int .i64 n, .int .i64 o] 24 (0, 0))) := ⟨blk_below BK_q.out HBc⟩; have SLn : Aside0 (IsSlv 77 w2 g R (X)) := ⟨SL.out.below HBc⟩; have XTn : Aside0 (Ext (Fp g R) w w2) := ⟨XT.out.stepB HBc⟩; have HVn : Aside0 (Ever (Fp g R) w2 (fun W => Kd.C (Kd.int .i64) W A v.length v)) := ⟨HV.out.step (.of_below HBc)⟩; clear BK_q SL XT HV; have BK_q := BK_qn; have SL := SLn; have XT := XTn; have HV := HVn; clear BK_qn SLn XTn HVn; have BK_z : Aside0 (w2.heap[z]? = some (.cells #[.slice none 0 0, .int .i64 0] 30 (0, 0))) := ⟨hbox⟩; clear hbox HBc; have lc2_0 : w2.cell? ⟨z, 0, none⟩ = some (.slice none 0 0) := (blk_cell BK_z.out 0).trans rfl; have lf2_0 := blk_frozen BK_z.out 0; have lc2_1 : w2.cell? ⟨z, 1, none⟩ = some (.int .i64 0) := (blk_cell BK_z.out 1).trans rfl; have lf2_1 := blk_frozen BK_z.out 1; have lc3_0 : w2.cell? ⟨q, 0, none⟩ = some (.int .i64 3) := (blk_cell BK_q.out 0).trans rfl; have lf3_0 := blk_frozen BK_q.out 0; have lc3_1 : w2.cell? ⟨q, 1, none⟩ = some (.int .i64 (a : Int)) := (blk_cell BK_q.out 1).trans rfl; have lf3_1 := blk_frozen BK_q.out 1; have lc3_2 : w2.cell? ⟨q, 2, none⟩ = some (.int .i64 (c : Int)) := (blk_cell BK_q.out 2).trans rfl; have lf3_2 := blk_frozen BK_q.out 2; have lc3_3 : w2.cell? ⟨q, 3, none⟩ = some (.slice A 0 cc) := (blk_cell BK_q.out 3).trans rfl; have lf3_3 := blk_frozen BK_q.out 3; have lc3_4 : w2.cell? ⟨q, 4, none⟩ = some (.int .i64 t) := (blk_cell BK_q.out 4).trans rfl; have lf3_4 := blk_frozen BK_q.out 4; have lc3_5 : w2.cell? ⟨q, 5, none⟩ = some (.int .i64 n) := (blk_cell BK_q.out 5).trans rfl; have lf3_5 := blk_frozen BK_q.out 5; have lc3_6 : w2.cell? ⟨q, 6, none⟩ = some (.int .i64 o) := (blk_cell BK_q.out 6).trans rfl; have lf3_6 := blk_frozen BK_q.out 6) | (go_at_call 29; refine (chk_n HN.out HV.out.now HCK.out rfl).mono ?_; rintro e w3 ⟨rfl, HBc⟩; have BK_qn : Aside0 (w3.heap[q]? = some (.cells #[.int .i64 3, .int .i64 (a : Int), .int .i64 (c : Int), .slice A 0 cc, .int .i64 t, .int .i64 n, .int .i64 o] 24 (0, 0))) := ⟨blk_below BK_q.out HBc⟩; have BK_zn : Aside0 (w3.heap[z]? = some (.cells #[.slice none 0 0, .int .i64 0] 30 (0, 0))) := ⟨blk_below BK_z.out HBc⟩; have SLn : Aside0 (IsSlv 77 w3 g R (X)) := ⟨SL.out.below HBc⟩; have XTn : Aside0 (Ext (Fp g R) w w3) := ⟨XT.out.stepB HBc⟩; have HVn : Aside0 (Ever (Fp g R) w3 (fun W => Kd.C (Kd.int .i64) W A v.length v)) := ⟨HV.out.step (.of_below HBc)⟩; clear BK_q BK_z SL XT HV; have BK_q := BK_qn; have BK_z := BK_zn; have SL := SLn; have XT := XTn; have HV := HVn; clear BK_qn BK_zn SLn XTn HVn; clear HBc; have lc4_0 : w3.cell? ⟨q, 0, none⟩ = some (.int .i64 3) := (blk_cell BK_q.out 0).trans rfl; have lf4_0 := blk_frozen BK_q.out 0; have lc4_1 : w3.cell? ⟨q, 1, none⟩ = some (.int .i64 (a : Int)) := (blk_cell BK_q.out 1).trans rfl; have lf4_1 := blk_frozen BK_q.out 1; have lc4_2 : w3.cell? ⟨q, 2, none⟩ = some (.int .i64 (c : Int)) := (blk_cell BK_q.out 2).trans rfl; have lf4_2 := blk_frozen BK_q.out 2; have lc4_3 : w3.cell? ⟨q, 3, none⟩ = some (.slice A 0 cc) := (blk_cell BK_q.out 3).trans rfl; have lf4_3 := blk_frozen BK_q.out 3; have lc4_4 : w3.cell? ⟨q, 4, none⟩ = some (.int .i64 t) := (blk_cell BK_q.out 4).trans rfl; have lf4_4 := blk_frozen BK_q.out 4; have lc4_5 : w3.cell? ⟨q, 5, none⟩ = some (.int .i64 n) := (blk_cell BK_q.out 5).trans rfl; have lf4_5 := blk_frozen BK_q.out 5; have lc4_6 : w3.cell? ⟨q, 6, none⟩ = some (.int .i64 o) := (blk_cell BK_q.out 6).trans rfl; have lf4_6 := blk_frozen BK_q.out 6; have lc5_0 : w3.cell? ⟨z, 0, none⟩ = some (.slice none 0 0) := (blk_cell BK_z.out 0).trans rfl; have lf5_0 := blk_frozen BK_z.out 0; have lc5_1 : w3.cell? ⟨z, 1, none⟩ = some (.int .i64 0) := (blk_cell BK_z.out 1).trans rfl; have lf5_1 := blk_frozen BK_z.out 1) | (go_at_call 41; refine (part_neg SL.out (K := 2) (by omega) HB.out HLT.out rfl).mono ?_; rintro e w' ⟨rfl, rfl⟩) | ((with_reducible refine gate_store (p := 4) rfl ?_); refine store_event (w1 := ?_) rfl (p := 4) rfl rfl ?hr ?_; rotate_left; (case hr => go_simp; rfl); intro w4 hw_; obtain ⟨hput, HEc⟩ := put2 hw_ BK_z.out; clear hw_; have BK_qn : Aside0 (w4.heap[q]? = some (.cells #[.int .i64 3, .int .i64 (a : Int), .int .i64 (c : Int), .slice A 0 cc, .int .i64 t, .int .i64 n, .int .i64 o] 24 (0, 0))) := ⟨Ext.blk HEc BK_q.out NE_q_z.out⟩; have SLn : Aside0 (IsSlv 77 w4 g R (X)) := ⟨SL.out.ext HEc (fun k hk e => NS_z.out k hk e)⟩; have XTn : Aside0 (Ext (Fp g R) w w4) := ⟨XT.out.step HEc (fun k e => .inr (by rw [show k = z from e]; exact RG_z.out))⟩; clear BK_q SL XT; have BK_q := BK_qn; have SL := SLn; have XT := XTn; clear BK_qn SLn XTn; clear BK_z HV; have BK_z : Aside0 (w4.heap[z]? = some (.cells #[.slice none 0 0, .int .i64 2] 30 (0, 0))) := ⟨hput⟩; have HST := Aside0.mk HEc; clear hput HEc))
  refine bodyPost_ret (results_ct rfl _ _ z 30 #[.slice none 0 0, .int .i64 2] (0, 0) _ rfl BK_z.out Try.underlying30 rfl (by kernel_rfl)) rfl ?_
  exact ⟨none, 0, rfl, Nat.le_refl _, SL.out, XT.out, fun M hM => Ever.nil _⟩
set_option maxHeartbeats 4000000 in
set_option maxRecDepth 100000 in
theorem do_r2_yes {w : World} {g : Nat} {R : Nat → Nat} {X : Nat → List Int} (h : IsSlv 77 w g R X) {A : Option Addr} {cc : Nat} {v : List Int} (hn : v.length = 0) (hV : Ever (Fp g R) w (fun W => Kd.C (Kd.int .i64) W A v.length v)) {a c : Nat} {t n o : Int} (hck : Chk.chkB 3 (a : Int) (c : Int) v t n o = true) (hb : a ≤ 1000000 ∧ c ≤ 1000000) (hpos : 0 < c) (hfit : a + c ≤ (X 2).length) : Calls Try.prog 15 #[.pointer (some ⟨g, 0, none⟩), .agg #[.int .i64 3, .int .i64 (a : Int), .int .i64 (c : Int), .slice A 0 cc, .int .i64 t, .int .i64 n, .int .i64 o]] w fun e w' => ∃ AA cA, e = .returned (.tuple #[.agg #[.slice AA (rdAt (X 2) a c).length cA, .int .i64 0], .int .i64 0]) ∧ (rdAt (X 2) a c).length ≤ cA ∧ IsSlv 77 w' g R (X) ∧ Ext (Fp g R) w w' ∧ IsAns w w' AA (rdAt (X 2) a c) := by
  have SL : Aside0 (IsSlv 77 w g R (X)) := ⟨h⟩; have XT : Aside0 (Ext (Fp g R) w w) := ⟨Ext.refl _ _⟩; have HV := Aside0.mk hV; have HN := Aside0.mk hn
  have HCK := Aside0.mk hck
  obtain ⟨xs, hxs⟩ : ∃ xs, X 2 = xs := ⟨_, rfl⟩; obtain ⟨r, hr⟩ : ∃ r, R 2 = r := ⟨_, rfl⟩; have HXS := Aside0.mk hxs; have HR := Aside0.mk hr
  obtain ⟨L, hL⟩ : ∃ L, (X 2).length = L := ⟨_, rfl⟩; have HL := Aside0.mk hL
  obtain ⟨qq, hqq⟩ : ∃ q, L - a = q := ⟨_, rfl⟩; have HQQ := Aside0.mk hqq
  have HB := Aside0.mk hb; have HFIT := Aside0.mk hfit; have HPOS := Aside0.mk hpos
  rw [hxs]
  clear h hV hn hck hb hfit hpos hxs hr hL hqq
  go_enter Try.func15, Try.ntmps15
  go_wp2_with (first | ((with_reducible refine gate_dst (N := 3) rfl ?_); refine box_event ?hg (N := 3) ?hd (cs := #[.int .i64 3, .int .i64 (a : Int), .int .i64 (c : Int), .slice A 0 cc, .int .i64 t, .int .i64 n, .int .i64 o]) (t := 24) ?hr ?_; (case hd => rfl); (case hg => rfl); (case hr => first | (go_simp; done) | (go_simp; rfl)); intro q hg w1 hbox HBc; have NS_q : Aside0 (∀ k, Fp g R k → k ≠ q) := ⟨fun k hk e => by have := SL.out.lt k hk; omega⟩; have RG_q : Aside0 (w.heap.size ≤ q) := ⟨Nat.le_trans XT.out.size (Nat.le_of_eq hg.symm)⟩; clear hg; have SLn : Aside0 (IsSlv 77 w1 g R (X)) := ⟨SL.out.below HBc⟩; have XTn : Aside0 (Ext (Fp g R) w w1) := ⟨XT.out.stepB HBc⟩; have HVn : Aside0 (Ever (Fp g R) w1 (fun W => Kd.C (Kd.int .i64) W A v.length v)) := ⟨HV.out.step (.of_below HBc)⟩; clear SL XT HV; have SL := SLn; have XT := XTn; have HV := HVn; clear SLn XTn HVn; have BK_q : Aside0 (w1.heap[q]? = some (.cells #[.int .i64 3, .int .i64 (a : Int), .int .i64 (c : Int), .slice A 0 cc, .int .i64 t, .int .i64 n, .int .i64 o] 24 (0, 0))) := ⟨hbox⟩; clear hbox HBc; have lc1_0 : w1.cell? ⟨q, 0, none⟩ = some (.int .i64 3) := (blk_cell BK_q.out 0).trans rfl; have lf1_0 := blk_frozen BK_q.out 0; have lc1_1 : w1.cell? ⟨q, 1, none⟩ = some (.int .i64 (a : Int)) := (blk_cell BK_q.out 1).trans rfl; have lf1_1 := blk_frozen BK_q.out 1; have lc1_2 : w1.cell? ⟨q, 2, none⟩ = some (.int .i64 (c : Int)) := (blk_cell BK_q.out 2).trans rfl; have lf1_2 := blk_frozen BK_q.out 2; have lc1_3 : w1.cell? ⟨q, 3, none⟩ = some (.slice A 0 cc) := (blk_cell BK_q.out 3).trans rfl; have lf1_3 := blk_frozen BK_q.out 3; have lc1_4 : w1.cell? ⟨q, 4, none⟩ = some (.int .i64 t) := (blk_cell BK_q.out 4).trans rfl; have lf1_4 := blk_frozen BK_q.out 4; have lc1_5 : w1.cell? ⟨q, 5, none⟩ = some (.int .i64 n) := (blk_cell BK_q.out 5).trans rfl; have lf1_5 := blk_frozen BK_q.out 5; have lc1_6 : w1.cell? ⟨q, 6, none⟩ = some (.int .i64 o) := (blk_cell BK_q.out 6).trans rfl; have lf1_6 := blk_frozen BK_q.out 6) | ((with_reducible refine gate_dst (N := 4) rfl ?_); refine box_event ?hg (N := 4) ?hd (cs := #[.slice none 0 0, .int .i64 0]) (t := 30) ?hr ?_; (case hd => rfl); (case hg => rfl); (case hr => first | (go_simp; done) | (go_simp; rfl)); intro z hg w2 hbox HBc; have NS_z : Aside0 (∀ k, Fp g R k → k ≠ z) := ⟨fun k hk e => by have := SL.out.lt k hk; omega⟩; have RG_z : Aside0 (w.heap.size ≤ z) := ⟨Nat.le_trans XT.out.size (Nat.le_of_eq hg.symm)⟩; have NE_q_z : Aside0 (q ≠ z) := ⟨ne_born (blk_lt BK_q.out) hg⟩; clear hg; have BK_qn : Aside0 (w2.heap[q]? = some (.cells #[.int .i64 3, .int .i64 (a : Int), .int .i64 (c : Int), .slice A 0 cc, .int .i64 t, .int .i64 n, .int .i64 o] 24 (0, 0))) := ⟨blk_below BK_q.out HBc⟩; have SLn : Aside0 (IsSlv 77 w2 g R (X)) := ⟨SL.out.below HBc⟩; have XTn : Aside0 (Ext (Fp g R) w w2) := ⟨XT.out.stepB HBc⟩; have HVn : Aside0 (Ever (Fp g R) w2 (fun W => Kd.C (Kd.int .i64) W A v.length v)) := ⟨HV.out.step (.of_below HBc)⟩; clear BK_q SL XT HV; have BK_q := BK_qn; have SL := SLn; have XT := XTn; have HV := HVn; clear BK_qn SLn XTn HVn; have BK_z : Aside0 (w2.heap[z]? = some (.cells #[.slice none 0 0, .int .i64 0] 30 (0, 0))) := ⟨hbox⟩; clear hbox HBc; have lc2_0 : w2.cell? ⟨z, 0, none⟩ = some (.slice none 0 0) := (blk_cell BK_z.out 0).trans rfl; have lf2_0 := blk_frozen BK_z.out 0; have lc2_1 : w2.cell? ⟨z, 1, none⟩ = some (.int .i64 0) := (blk_cell BK_z.out 1).trans rfl; have lf2_1 := blk_frozen BK_z.out 1; have lc3_0 : w2.cell? ⟨q, 0, none⟩ = some (.int .i64 3) := (blk_cell BK_q.out 0).trans rfl; have lf3_0 := blk_frozen BK_q.out 0; have lc3_1 : w2.cell? ⟨q, 1, none⟩ = some (.int .i64 (a : Int)) := (blk_cell BK_q.out 1).trans rfl; have lf3_1 := blk_frozen BK_q.out 1; have lc3_2 : w2.cell? ⟨q, 2, none⟩ = some (.int .i64 (c : Int)) := (blk_cell BK_q.out 2).trans rfl; have lf3_2 := blk_frozen BK_q.out 2; have lc3_3 : w2.cell? ⟨q, 3, none⟩ = some (.slice A 0 cc) := (blk_cell BK_q.out 3).trans rfl; have lf3_3 := blk_frozen BK_q.out 3; have lc3_4 : w2.cell? ⟨q, 4, none⟩ = some (.int .i64 t) := (blk_cell BK_q.out 4).trans rfl; have lf3_4 := blk_frozen BK_q.out 4; have lc3_5 : w2.cell? ⟨q, 5, none⟩ = some (.int .i64 n) := (blk_cell BK_q.out 5).trans rfl; have lf3_5 := blk_frozen BK_q.out 5; have lc3_6 : w2.cell? ⟨q, 6, none⟩ = some (.int .i64 o) := (blk_cell BK_q.out 6).trans rfl; have lf3_6 := blk_frozen BK_q.out 6) | (go_at_call 29; refine (chk_n HN.out HV.out.now HCK.out rfl).mono ?_; rintro e w3 ⟨rfl, HBc⟩; have BK_qn : Aside0 (w3.heap[q]? = some (.cells #[.int .i64 3, .int .i64 (a : Int), .int .i64 (c : Int), .slice A 0 cc, .int .i64 t, .int .i64 n, .int .i64 o] 24 (0, 0))) := ⟨blk_below BK_q.out HBc⟩; have BK_zn : Aside0 (w3.heap[z]? = some (.cells #[.slice none 0 0, .int .i64 0] 30 (0, 0))) := ⟨blk_below BK_z.out HBc⟩; have SLn : Aside0 (IsSlv 77 w3 g R (X)) := ⟨SL.out.below HBc⟩; have XTn : Aside0 (Ext (Fp g R) w w3) := ⟨XT.out.stepB HBc⟩; have HVn : Aside0 (Ever (Fp g R) w3 (fun W => Kd.C (Kd.int .i64) W A v.length v)) := ⟨HV.out.step (.of_below HBc)⟩; clear BK_q BK_z SL XT HV; have BK_q := BK_qn; have BK_z := BK_zn; have SL := SLn; have XT := XTn; have HV := HVn; clear BK_qn BK_zn SLn XTn HVn; clear HBc; have lc4_0 : w3.cell? ⟨q, 0, none⟩ = some (.int .i64 3) := (blk_cell BK_q.out 0).trans rfl; have lf4_0 := blk_frozen BK_q.out 0; have lc4_1 : w3.cell? ⟨q, 1, none⟩ = some (.int .i64 (a : Int)) := (blk_cell BK_q.out 1).trans rfl; have lf4_1 := blk_frozen BK_q.out 1; have lc4_2 : w3.cell? ⟨q, 2, none⟩ = some (.int .i64 (c : Int)) := (blk_cell BK_q.out 2).trans rfl; have lf4_2 := blk_frozen BK_q.out 2; have lc4_3 : w3.cell? ⟨q, 3, none⟩ = some (.slice A 0 cc) := (blk_cell BK_q.out 3).trans rfl; have lf4_3 := blk_frozen BK_q.out 3; have lc4_4 : w3.cell? ⟨q, 4, none⟩ = some (.int .i64 t) := (blk_cell BK_q.out 4).trans rfl; have lf4_4 := blk_frozen BK_q.out 4; have lc4_5 : w3.cell? ⟨q, 5, none⟩ = some (.int .i64 n) := (blk_cell BK_q.out 5).trans rfl; have lf4_5 := blk_frozen BK_q.out 5; have lc4_6 : w3.cell? ⟨q, 6, none⟩ = some (.int .i64 o) := (blk_cell BK_q.out 6).trans rfl; have lf4_6 := blk_frozen BK_q.out 6; have lc5_0 : w3.cell? ⟨z, 0, none⟩ = some (.slice none 0 0) := (blk_cell BK_z.out 0).trans rfl; have lf5_0 := blk_frozen BK_z.out 0; have lc5_1 : w3.cell? ⟨z, 1, none⟩ = some (.int .i64 0) := (blk_cell BK_z.out 1).trans rfl; have lf5_1 := blk_frozen BK_z.out 1) | (go_at_call 41; refine (part_pos SL.out (K := 2) (by omega) HB.out HFIT.out HPOS.out HR.out HL.out HQQ.out rfl).mono ?_; rintro e w' ⟨rfl, rfl⟩) | ((with_reducible refine gate_builtin (b := .copy) (xs := #[.tmp 97, .tmp 99]) rfl ?_); refine copy_none_ev (D := none) (n := 0) (c := 0) (A := A) (m := 0) (c2 := cc) rfl (.tmp 97) (.tmp 99) rfl Try.underlying22 one3 rfl rfl (by decide) ?_) | ((with_reducible refine gate_builtin (b := .append) (xs := #[.const (.slice none 0 0), .tmp 118]) rfl ?_); refine ev_append_rows (M := Mv (fun _ => False) (.slice none 0 0)) (Kd.int .i64) (w0 := w3) (w3.heap.size) rfl (.const (.slice none 0 0)) (.tmp 118) 22 3 (.int .i64 0) 8 rfl Try.underlying22 info3 rfl (by decide) (by decide) (.slice none 0 0) [] (rdAt xs a c) (some ⟨r, a, none⟩) (c) (qq) rfl rfl (OwnE.nil _ _ _ _ _) (RowE.elems (RowE.old (by have hrow := SL.out.row 2 (by omega); rw [HR.out, HXS.out] at hrow; have := C_sub hrow (a := a) (c := c) (by rw [← HXS.out]; exact HFIT.out) (by have := HB.out; omega); rw [rdAt_len (by rw [← HXS.out]; exact HFIT.out)] at this; exact this) (fun k hk => by rcases hk with (hk | hk) | hk; exact hk.elim; cases hk; cases hk))) (Below.refl _ _) (Nat.le_refl _) (by have := HB.out; simp only [List.length_nil]; omega) ?_; intro vv w4 HO_ HBc hgr_ _; obtain ⟨AA, cA, rfl, hcA, hAns⟩ := own_ints HO_; clear HO_ hgr_; rw [List.nil_append] at hcA hAns ⊢; have HCA := Aside0.mk hcA; have HANS : Aside0 (∀ M : Nat → Prop, (∀ k, M k → k < w3.heap.size) → Ever M w4 (fun W => Kd.C (Kd.int .i64) W AA (rdAt xs a c).length (rdAt xs a c))) := ⟨hAns⟩; have HZL : Aside0 (z < w3.heap.size ∧ w.heap.size ≤ w3.heap.size) := ⟨blk_lt BK_z.out, XT.out.size⟩; clear hAns hcA; have BK_qn : Aside0 (w4.heap[q]? = some (.cells #[.int .i64 3, .int .i64 (a : Int), .int .i64 (c : Int), .slice A 0 cc, .int .i64 t, .int .i64 n, .int .i64 o] 24 (0, 0))) := ⟨blk_below BK_q.out HBc⟩; have BK_zn : Aside0 (w4.heap[z]? = some (.cells #[.slice none 0 0, .int .i64 0] 30 (0, 0))) := ⟨blk_below BK_z.out HBc⟩; have SLn : Aside0 (IsSlv 77 w4 g R (X)) := ⟨SL.out.below HBc⟩; have XTn : Aside0 (Ext (Fp g R) w w4) := ⟨XT.out.stepB HBc⟩; have HVn : Aside0 (Ever (Fp g R) w4 (fun W => Kd.C (Kd.int .i64) W A v.length v)) := ⟨HV.out.step (.of_below HBc)⟩; clear BK_q BK_z SL XT HV; have BK_q := BK_qn; have BK_z := BK_zn; have SL := SLn; have XT := XTn; have HV := HVn; clear BK_qn BK_zn SLn XTn HVn; clear HBc; have lc6_0 : w4.cell? ⟨z, 0, none⟩ = some (.slice none 0 0) := (blk_cell BK_z.out 0).trans rfl; have lf6_0 := blk_frozen BK_z.out 0; have lc6_1 : w4.cell? ⟨z, 1, none⟩ = some (.int .i64 0) := (blk_cell BK_z.out 1).trans rfl; have lf6_1 := blk_frozen BK_z.out 1) | ((with_reducible refine gate_store (p := 4) rfl ?_); refine store_event (w1 := ?_) rfl (p := 4) rfl rfl ?hr ?_; rotate_left; (case hr => go_simp; rfl); intro w5 hw_; obtain ⟨hput, HEc⟩ := put2 hw_ BK_z.out; clear hw_; have BK_qn : Aside0 (w5.heap[q]? = some (.cells #[.int .i64 3, .int .i64 (a : Int), .int .i64 (c : Int), .slice A 0 cc, .int .i64 t, .int .i64 n, .int .i64 o] 24 (0, 0))) := ⟨Ext.blk HEc BK_q.out NE_q_z.out⟩; have SLn : Aside0 (IsSlv 77 w5 g R (X)) := ⟨SL.out.ext HEc (fun k hk e => NS_z.out k hk e)⟩; have XTn : Aside0 (Ext (Fp g R) w w5) := ⟨XT.out.step HEc (fun k e => .inr (by rw [show k = z from e]; exact RG_z.out))⟩; clear BK_q SL XT; have BK_q := BK_qn; have SL := SLn; have XT := XTn; clear BK_qn SLn XTn; clear BK_z HV; have BK_z : Aside0 (w5.heap[z]? = some (.cells #[.slice AA (rdAt xs a c).length cA, .int .i64 0] 30 (0, 0))) := ⟨hput⟩; have HST := Aside0.mk HEc; clear hput HEc))
  refine bodyPost_ret (results_ct rfl _ _ z 30 #[.slice AA (rdAt xs a c).length cA, .int .i64 0] (0, 0) _ rfl BK_z.out Try.underlying30 rfl (by kernel_rfl)) rfl ?_
  exact ⟨AA, cA, rfl, HCA.out, SL.out, XT.out, fun M hM => (HANS.out (fun k => M k ∨ k = z) (fun k hk => by rcases hk with hk | hk; exact Nat.lt_of_lt_of_le (hM k hk) HZL.out.2; rw [hk]; exact HZL.out.1)).grow (HST.out.sub (fun k e => .inr e)) (fun k hk => .inl (.inl hk))⟩
set_option maxHeartbeats 4000000 in
set_option maxRecDepth 100000 in
theorem do_r3_no {w : World} {g : Nat} {R : Nat → Nat} {X : Nat → List Int} (h : IsSlv 77 w g R X) {A : Option Addr} {cc : Nat} {v : List Int} (hn : v.length = 0) (hV : Ever (Fp g R) w (fun W => Kd.C (Kd.int .i64) W A v.length v)) {a c : Nat} {t n o : Int} (hck : Chk.chkB 4 (a : Int) (c : Int) v t n o = true) (hb : a ≤ 1000000 ∧ c ≤ 1000000) (hlt : (X 3).length < a + c) : Calls Try.prog 15 #[.pointer (some ⟨g, 0, none⟩), .agg #[.int .i64 4, .int .i64 (a : Int), .int .i64 (c : Int), .slice A 0 cc, .int .i64 t, .int .i64 n, .int .i64 o]] w fun e w' => ∃ AA cA, e = .returned (.tuple #[.agg #[.slice AA (([] : List Int)).length cA, .int .i64 2], .int .i64 0]) ∧ (([] : List Int)).length ≤ cA ∧ IsSlv 77 w' g R (X) ∧ Ext (Fp g R) w w' ∧ IsAns w w' AA (([] : List Int)) := by
  have SL : Aside0 (IsSlv 77 w g R (X)) := ⟨h⟩; have XT : Aside0 (Ext (Fp g R) w w) := ⟨Ext.refl _ _⟩; have HV := Aside0.mk hV; have HN := Aside0.mk hn
  have HCK := Aside0.mk hck
  obtain ⟨xs, hxs⟩ : ∃ xs, X 3 = xs := ⟨_, rfl⟩; obtain ⟨r, hr⟩ : ∃ r, R 3 = r := ⟨_, rfl⟩; have HXS := Aside0.mk hxs; have HR := Aside0.mk hr
  obtain ⟨L, hL⟩ : ∃ L, (X 3).length = L := ⟨_, rfl⟩; have HL := Aside0.mk hL
  obtain ⟨qq, hqq⟩ : ∃ q, L - a = q := ⟨_, rfl⟩; have HQQ := Aside0.mk hqq
  have HB := Aside0.mk hb; have HLT := Aside0.mk hlt
  clear h hV hn hck hb hlt hxs hr hL hqq
  go_enter Try.func15, Try.ntmps15
  go_wp2_with (first | ((with_reducible refine gate_dst (N := 3) rfl ?_); refine box_event ?hg (N := 3) ?hd (cs := #[.int .i64 4, .int .i64 (a : Int), .int .i64 (c : Int), .slice A 0 cc, .int .i64 t, .int .i64 n, .int .i64 o]) (t := 24) ?hr ?_; (case hd => rfl); (case hg => rfl); (case hr => first | (go_simp; done) | (go_simp; rfl)); intro q hg w1 hbox HBc; have NS_q : Aside0 (∀ k, Fp g R k → k ≠ q) := ⟨fun k hk e => by have := SL.out.lt k hk; omega⟩; have RG_q : Aside0 (w.heap.size ≤ q) := ⟨Nat.le_trans XT.out.size (Nat.le_of_eq hg.symm)⟩; clear hg; have SLn : Aside0 (IsSlv 77 w1 g R (X)) := ⟨SL.out.below HBc⟩; have XTn : Aside0 (Ext (Fp g R) w w1) := ⟨XT.out.stepB HBc⟩; have HVn : Aside0 (Ever (Fp g R) w1 (fun W => Kd.C (Kd.int .i64) W A v.length v)) := ⟨HV.out.step (.of_below HBc)⟩; clear SL XT HV; have SL := SLn; have XT := XTn; have HV := HVn; clear SLn XTn HVn; have BK_q : Aside0 (w1.heap[q]? = some (.cells #[.int .i64 4, .int .i64 (a : Int), .int .i64 (c : Int), .slice A 0 cc, .int .i64 t, .int .i64 n, .int .i64 o] 24 (0, 0))) := ⟨hbox⟩; clear hbox HBc; have lc1_0 : w1.cell? ⟨q, 0, none⟩ = some (.int .i64 4) := (blk_cell BK_q.out 0).trans rfl; have lf1_0 := blk_frozen BK_q.out 0; have lc1_1 : w1.cell? ⟨q, 1, none⟩ = some (.int .i64 (a : Int)) := (blk_cell BK_q.out 1).trans rfl; have lf1_1 := blk_frozen BK_q.out 1; have lc1_2 : w1.cell? ⟨q, 2, none⟩ = some (.int .i64 (c : Int)) := (blk_cell BK_q.out 2).trans rfl; have lf1_2 := blk_frozen BK_q.out 2; have lc1_3 : w1.cell? ⟨q, 3, none⟩ = some (.slice A 0 cc) := (blk_cell BK_q.out 3).trans rfl; have lf1_3 := blk_frozen BK_q.out 3; have lc1_4 : w1.cell? ⟨q, 4, none⟩ = some (.int .i64 t) := (blk_cell BK_q.out 4).trans rfl; have lf1_4 := blk_frozen BK_q.out 4; have lc1_5 : w1.cell? ⟨q, 5, none⟩ = some (.int .i64 n) := (blk_cell BK_q.out 5).trans rfl; have lf1_5 := blk_frozen BK_q.out 5; have lc1_6 : w1.cell? ⟨q, 6, none⟩ = some (.int .i64 o) := (blk_cell BK_q.out 6).trans rfl; have lf1_6 := blk_frozen BK_q.out 6) | ((with_reducible refine gate_dst (N := 4) rfl ?_); refine box_event ?hg (N := 4) ?hd (cs := #[.slice none 0 0, .int .i64 0]) (t := 30) ?hr ?_; (case hd => rfl); (case hg => rfl); (case hr => first | (go_simp; done) | (go_simp; rfl)); intro z hg w2 hbox HBc; have NS_z : Aside0 (∀ k, Fp g R k → k ≠ z) := ⟨fun k hk e => by have := SL.out.lt k hk; omega⟩; have RG_z : Aside0 (w.heap.size ≤ z) := ⟨Nat.le_trans XT.out.size (Nat.le_of_eq hg.symm)⟩; have NE_q_z : Aside0 (q ≠ z) := ⟨ne_born (blk_lt BK_q.out) hg⟩; clear hg; have BK_qn : Aside0 (w2.heap[q]? = some (.cells #[.int .i64 4, .int .i64 (a : Int), .int .i64 (c : Int), .slice A 0 cc, .int .i64 t, .int .i64 n, .int .i64 o] 24 (0, 0))) := ⟨blk_below BK_q.out HBc⟩; have SLn : Aside0 (IsSlv 77 w2 g R (X)) := ⟨SL.out.below HBc⟩; have XTn : Aside0 (Ext (Fp g R) w w2) := ⟨XT.out.stepB HBc⟩; have HVn : Aside0 (Ever (Fp g R) w2 (fun W => Kd.C (Kd.int .i64) W A v.length v)) := ⟨HV.out.step (.of_below HBc)⟩; clear BK_q SL XT HV; have BK_q := BK_qn; have SL := SLn; have XT := XTn; have HV := HVn; clear BK_qn SLn XTn HVn; have BK_z : Aside0 (w2.heap[z]? = some (.cells #[.slice none 0 0, .int .i64 0] 30 (0, 0))) := ⟨hbox⟩; clear hbox HBc; have lc2_0 : w2.cell? ⟨z, 0, none⟩ = some (.slice none 0 0) := (blk_cell BK_z.out 0).trans rfl; have lf2_0 := blk_frozen BK_z.out 0; have lc2_1 : w2.cell? ⟨z, 1, none⟩ = some (.int .i64 0) := (blk_cell BK_z.out 1).trans rfl; have lf2_1 := blk_frozen BK_z.out 1; have lc3_0 : w2.cell? ⟨q, 0, none⟩ = some (.int .i64 4) := (blk_cell BK_q.out 0).trans rfl; have lf3_0 := blk_frozen BK_q.out 0; have lc3_1 : w2.cell? ⟨q, 1, none⟩ = some (.int .i64 (a : Int)) := (blk_cell BK_q.out 1).trans rfl; have lf3_1 := blk_frozen BK_q.out 1; have lc3_2 : w2.cell? ⟨q, 2, none⟩ = some (.int .i64 (c : Int)) := (blk_cell BK_q.out 2).trans rfl; have lf3_2 := blk_frozen BK_q.out 2; have lc3_3 : w2.cell? ⟨q, 3, none⟩ = some (.slice A 0 cc) := (blk_cell BK_q.out 3).trans rfl; have lf3_3 := blk_frozen BK_q.out 3; have lc3_4 : w2.cell? ⟨q, 4, none⟩ = some (.int .i64 t) := (blk_cell BK_q.out 4).trans rfl; have lf3_4 := blk_frozen BK_q.out 4; have lc3_5 : w2.cell? ⟨q, 5, none⟩ = some (.int .i64 n) := (blk_cell BK_q.out 5).trans rfl; have lf3_5 := blk_frozen BK_q.out 5; have lc3_6 : w2.cell? ⟨q, 6, none⟩ = some (.int .i64 o) := (blk_cell BK_q.out 6).trans rfl; have lf3_6 := blk_frozen BK_q.out 6) | (go_at_call 29; refine (chk_n HN.out HV.out.now HCK.out rfl).mono ?_; rintro e w3 ⟨rfl, HBc⟩; have BK_qn : Aside0 (w3.heap[q]? = some (.cells #[.int .i64 4, .int .i64 (a : Int), .int .i64 (c : Int), .slice A 0 cc, .int .i64 t, .int .i64 n, .int .i64 o] 24 (0, 0))) := ⟨blk_below BK_q.out HBc⟩; have BK_zn : Aside0 (w3.heap[z]? = some (.cells #[.slice none 0 0, .int .i64 0] 30 (0, 0))) := ⟨blk_below BK_z.out HBc⟩; have SLn : Aside0 (IsSlv 77 w3 g R (X)) := ⟨SL.out.below HBc⟩; have XTn : Aside0 (Ext (Fp g R) w w3) := ⟨XT.out.stepB HBc⟩; have HVn : Aside0 (Ever (Fp g R) w3 (fun W => Kd.C (Kd.int .i64) W A v.length v)) := ⟨HV.out.step (.of_below HBc)⟩; clear BK_q BK_z SL XT HV; have BK_q := BK_qn; have BK_z := BK_zn; have SL := SLn; have XT := XTn; have HV := HVn; clear BK_qn BK_zn SLn XTn HVn; clear HBc; have lc4_0 : w3.cell? ⟨q, 0, none⟩ = some (.int .i64 4) := (blk_cell BK_q.out 0).trans rfl; have lf4_0 := blk_frozen BK_q.out 0; have lc4_1 : w3.cell? ⟨q, 1, none⟩ = some (.int .i64 (a : Int)) := (blk_cell BK_q.out 1).trans rfl; have lf4_1 := blk_frozen BK_q.out 1; have lc4_2 : w3.cell? ⟨q, 2, none⟩ = some (.int .i64 (c : Int)) := (blk_cell BK_q.out 2).trans rfl; have lf4_2 := blk_frozen BK_q.out 2; have lc4_3 : w3.cell? ⟨q, 3, none⟩ = some (.slice A 0 cc) := (blk_cell BK_q.out 3).trans rfl; have lf4_3 := blk_frozen BK_q.out 3; have lc4_4 : w3.cell? ⟨q, 4, none⟩ = some (.int .i64 t) := (blk_cell BK_q.out 4).trans rfl; have lf4_4 := blk_frozen BK_q.out 4; have lc4_5 : w3.cell? ⟨q, 5, none⟩ = some (.int .i64 n) := (blk_cell BK_q.out 5).trans rfl; have lf4_5 := blk_frozen BK_q.out 5; have lc4_6 : w3.cell? ⟨q, 6, none⟩ = some (.int .i64 o) := (blk_cell BK_q.out 6).trans rfl; have lf4_6 := blk_frozen BK_q.out 6; have lc5_0 : w3.cell? ⟨z, 0, none⟩ = some (.slice none 0 0) := (blk_cell BK_z.out 0).trans rfl; have lf5_0 := blk_frozen BK_z.out 0; have lc5_1 : w3.cell? ⟨z, 1, none⟩ = some (.int .i64 0) := (blk_cell BK_z.out 1).trans rfl; have lf5_1 := blk_frozen BK_z.out 1) | (go_at_call 41; refine (part_neg SL.out (K := 3) (by omega) HB.out HLT.out rfl).mono ?_; rintro e w' ⟨rfl, rfl⟩) | ((with_reducible refine gate_store (p := 4) rfl ?_); refine store_event (w1 := ?_) rfl (p := 4) rfl rfl ?hr ?_; rotate_left; (case hr => go_simp; rfl); intro w4 hw_; obtain ⟨hput, HEc⟩ := put2 hw_ BK_z.out; clear hw_; have BK_qn : Aside0 (w4.heap[q]? = some (.cells #[.int .i64 4, .int .i64 (a : Int), .int .i64 (c : Int), .slice A 0 cc, .int .i64 t, .int .i64 n, .int .i64 o] 24 (0, 0))) := ⟨Ext.blk HEc BK_q.out NE_q_z.out⟩; have SLn : Aside0 (IsSlv 77 w4 g R (X)) := ⟨SL.out.ext HEc (fun k hk e => NS_z.out k hk e)⟩; have XTn : Aside0 (Ext (Fp g R) w w4) := ⟨XT.out.step HEc (fun k e => .inr (by rw [show k = z from e]; exact RG_z.out))⟩; clear BK_q SL XT; have BK_q := BK_qn; have SL := SLn; have XT := XTn; clear BK_qn SLn XTn; clear BK_z HV; have BK_z : Aside0 (w4.heap[z]? = some (.cells #[.slice none 0 0, .int .i64 2] 30 (0, 0))) := ⟨hput⟩; have HST := Aside0.mk HEc; clear hput HEc))
  refine bodyPost_ret (results_ct rfl _ _ z 30 #[.slice none 0 0, .int .i64 2] (0, 0) _ rfl BK_z.out Try.underlying30 rfl (by kernel_rfl)) rfl ?_
  exact ⟨none, 0, rfl, Nat.le_refl _, SL.out, XT.out, fun M hM => Ever.nil _⟩
set_option maxHeartbeats 4000000 in
set_option maxRecDepth 100000 in
theorem do_r3_yes {w : World} {g : Nat} {R : Nat → Nat} {X : Nat → List Int} (h : IsSlv 77 w g R X) {A : Option Addr} {cc : Nat} {v : List Int} (hn : v.length = 0) (hV : Ever (Fp g R) w (fun W => Kd.C (Kd.int .i64) W A v.length v)) {a c : Nat} {t n o : Int} (hck : Chk.chkB 4 (a : Int) (c : Int) v t n o = true) (hb : a ≤ 1000000 ∧ c ≤ 1000000) (hpos : 0 < c) (hfit : a + c ≤ (X 3).length) : Calls Try.prog 15 #[.pointer (some ⟨g, 0, none⟩), .agg #[.int .i64 4, .int .i64 (a : Int), .int .i64 (c : Int), .slice A 0 cc, .int .i64 t, .int .i64 n, .int .i64 o]] w fun e w' => ∃ AA cA, e = .returned (.tuple #[.agg #[.slice AA (rdAt (X 3) a c).length cA, .int .i64 0], .int .i64 0]) ∧ (rdAt (X 3) a c).length ≤ cA ∧ IsSlv 77 w' g R (X) ∧ Ext (Fp g R) w w' ∧ IsAns w w' AA (rdAt (X 3) a c) := by
  have SL : Aside0 (IsSlv 77 w g R (X)) := ⟨h⟩; have XT : Aside0 (Ext (Fp g R) w w) := ⟨Ext.refl _ _⟩; have HV := Aside0.mk hV; have HN := Aside0.mk hn
  have HCK := Aside0.mk hck
  obtain ⟨xs, hxs⟩ : ∃ xs, X 3 = xs := ⟨_, rfl⟩; obtain ⟨r, hr⟩ : ∃ r, R 3 = r := ⟨_, rfl⟩; have HXS := Aside0.mk hxs; have HR := Aside0.mk hr
  obtain ⟨L, hL⟩ : ∃ L, (X 3).length = L := ⟨_, rfl⟩; have HL := Aside0.mk hL
  obtain ⟨qq, hqq⟩ : ∃ q, L - a = q := ⟨_, rfl⟩; have HQQ := Aside0.mk hqq
  have HB := Aside0.mk hb; have HFIT := Aside0.mk hfit; have HPOS := Aside0.mk hpos
  rw [hxs]
  clear h hV hn hck hb hfit hpos hxs hr hL hqq
  go_enter Try.func15, Try.ntmps15
  go_wp2_with (first | ((with_reducible refine gate_dst (N := 3) rfl ?_); refine box_event ?hg (N := 3) ?hd (cs := #[.int .i64 4, .int .i64 (a : Int), .int .i64 (c : Int), .slice A 0 cc, .int .i64 t, .int .i64 n, .int .i64 o]) (t := 24) ?hr ?_; (case hd => rfl); (case hg => rfl); (case hr => first | (go_simp; done) | (go_simp; rfl)); intro q hg w1 hbox HBc; have NS_q : Aside0 (∀ k, Fp g R k → k ≠ q) := ⟨fun k hk e => by have := SL.out.lt k hk; omega⟩; have RG_q : Aside0 (w.heap.size ≤ q) := ⟨Nat.le_trans XT.out.size (Nat.le_of_eq hg.symm)⟩; clear hg; have SLn : Aside0 (IsSlv 77 w1 g R (X)) := ⟨SL.out.below HBc⟩; have XTn : Aside0 (Ext (Fp g R) w w1) := ⟨XT.out.stepB HBc⟩; have HVn : Aside0 (Ever (Fp g R) w1 (fun W => Kd.C (Kd.int .i64) W A v.length v)) := ⟨HV.out.step (.of_below HBc)⟩; clear SL XT HV; have SL := SLn; have XT := XTn; have HV := HVn; clear SLn XTn HVn; have BK_q : Aside0 (w1.heap[q]? = some (.cells #[.int .i64 4, .int .i64 (a : Int), .int .i64 (c : Int), .slice A 0 cc, .int .i64 t, .int .i64 n, .int .i64 o] 24 (0, 0))) := ⟨hbox⟩; clear hbox HBc; have lc1_0 : w1.cell? ⟨q, 0, none⟩ = some (.int .i64 4) := (blk_cell BK_q.out 0).trans rfl; have lf1_0 := blk_frozen BK_q.out 0; have lc1_1 : w1.cell? ⟨q, 1, none⟩ = some (.int .i64 (a : Int)) := (blk_cell BK_q.out 1).trans rfl; have lf1_1 := blk_frozen BK_q.out 1; have lc1_2 : w1.cell? ⟨q, 2, none⟩ = some (.int .i64 (c : Int)) := (blk_cell BK_q.out 2).trans rfl; have lf1_2 := blk_frozen BK_q.out 2; have lc1_3 : w1.cell? ⟨q, 3, none⟩ = some (.slice A 0 cc) := (blk_cell BK_q.out 3).trans rfl; have lf1_3 := blk_frozen BK_q.out 3; have lc1_4 : w1.cell? ⟨q, 4, none⟩ = some (.int .i64 t) := (blk_cell BK_q.out 4).trans rfl; have lf1_4 := blk_frozen BK_q.out 4; have lc1_5 : w1.cell? ⟨q, 5, none⟩ = some (.int .i64 n) := (blk_cell BK_q.out 5).trans rfl; have lf1_5 := blk_frozen BK_q.out 5; have lc1_6 : w1.cell? ⟨q, 6, none⟩ = some (.int .i64 o) := (blk_cell BK_q.out 6).trans rfl; have lf1_6 := blk_frozen BK_q.out 6) | ((with_reducible refine gate_dst (N := 4) rfl ?_); refine box_event ?hg (N := 4) ?hd (cs := #[.slice none 0 0, .int .i64 0]) (t := 30) ?hr ?_; (case hd => rfl); (case hg => rfl); (case hr => first | (go_simp; done) | (go_simp; rfl)); intro z hg w2 hbox HBc; have NS_z : Aside0 (∀ k, Fp g R k → k ≠ z) := ⟨fun k hk e => by have := SL.out.lt k hk; omega⟩; have RG_z : Aside0 (w.heap.size ≤ z) := ⟨Nat.le_trans XT.out.size (Nat.le_of_eq hg.symm)⟩; have NE_q_z : Aside0 (q ≠ z) := ⟨ne_born (blk_lt BK_q.out) hg⟩; clear hg; have BK_qn : Aside0 (w2.heap[q]? = some (.cells #[.int .i64 4, .int .i64 (a : Int), .int .i64 (c : Int), .slice A 0 cc, .int .i64 t, .int .i64 n, .int .i64 o] 24 (0, 0))) := ⟨blk_below BK_q.out HBc⟩; have SLn : Aside0 (IsSlv 77 w2 g R (X)) := ⟨SL.out.below HBc⟩; have XTn : Aside0 (Ext (Fp g R) w w2) := ⟨XT.out.stepB HBc⟩; have HVn : Aside0 (Ever (Fp g R) w2 (fun W => Kd.C (Kd.int .i64) W A v.length v)) := ⟨HV.out.step (.of_below HBc)⟩; clear BK_q SL XT HV; have BK_q := BK_qn; have SL := SLn; have XT := XTn; have HV := HVn; clear BK_qn SLn XTn HVn; have BK_z : Aside0 (w2.heap[z]? = some (.cells #[.slice none 0 0, .int .i64 0] 30 (0, 0))) := ⟨hbox⟩; clear hbox HBc; have lc2_0 : w2.cell? ⟨z, 0, none⟩ = some (.slice none 0 0) := (blk_cell BK_z.out 0).trans rfl; have lf2_0 := blk_frozen BK_z.out 0; have lc2_1 : w2.cell? ⟨z, 1, none⟩ = some (.int .i64 0) := (blk_cell BK_z.out 1).trans rfl; have lf2_1 := blk_frozen BK_z.out 1; have lc3_0 : w2.cell? ⟨q, 0, none⟩ = some (.int .i64 4) := (blk_cell BK_q.out 0).trans rfl; have lf3_0 := blk_frozen BK_q.out 0; have lc3_1 : w2.cell? ⟨q, 1, none⟩ = some (.int .i64 (a : Int)) := (blk_cell BK_q.out 1).trans rfl; have lf3_1 := blk_frozen BK_q.out 1; have lc3_2 : w2.cell? ⟨q, 2, none⟩ = some (.int .i64 (c : Int)) := (blk_cell BK_q.out 2).trans rfl; have lf3_2 := blk_frozen BK_q.out 2; have lc3_3 : w2.cell? ⟨q, 3, none⟩ = some (.slice A 0 cc) := (blk_cell BK_q.out 3).trans rfl; have lf3_3 := blk_frozen BK_q.out 3; have lc3_4 : w2.cell? ⟨q, 4, none⟩ = some (.int .i64 t) := (blk_cell BK_q.out 4).trans rfl; have lf3_4 := blk_frozen BK_q.out 4; have lc3_5 : w2.cell? ⟨q, 5, none⟩ = some (.int .i64 n) := (blk_cell BK_q.out 5).trans rfl; have lf3_5 := blk_frozen BK_q.out 5; have lc3_6 : w2.cell? ⟨q, 6, none⟩ = some (.int .i64 o) := (blk_cell BK_q.out 6).trans rfl; have lf3_6 := blk_frozen BK_q.out 6) | (go_at_call 29; refine (chk_n HN.out HV.out.now HCK.out rfl).mono ?_; rintro e w3 ⟨rfl, HBc⟩; have BK_qn : Aside0 (w3.heap[q]? = some (.cells #[.int .i64 4, .int .i64 (a : Int), .int .i64 (c : Int), .slice A 0 cc, .int .i64 t, .int .i64 n, .int .i64 o] 24 (0, 0))) := ⟨blk_below BK_q.out HBc⟩; have BK_zn : Aside0 (w3.heap[z]? = some (.cells #[.slice none 0 0, .int .i64 0] 30 (0, 0))) := ⟨blk_below BK_z.out HBc⟩; have SLn : Aside0 (IsSlv 77 w3 g R (X)) := ⟨SL.out.below HBc⟩; have XTn : Aside0 (Ext (Fp g R) w w3) := ⟨XT.out.stepB HBc⟩; have HVn : Aside0 (Ever (Fp g R) w3 (fun W => Kd.C (Kd.int .i64) W A v.length v)) := ⟨HV.out.step (.of_below HBc)⟩; clear BK_q BK_z SL XT HV; have BK_q := BK_qn; have BK_z := BK_zn; have SL := SLn; have XT := XTn; have HV := HVn; clear BK_qn BK_zn SLn XTn HVn; clear HBc; have lc4_0 : w3.cell? ⟨q, 0, none⟩ = some (.int .i64 4) := (blk_cell BK_q.out 0).trans rfl; have lf4_0 := blk_frozen BK_q.out 0; have lc4_1 : w3.cell? ⟨q, 1, none⟩ = some (.int .i64 (a : Int)) := (blk_cell BK_q.out 1).trans rfl; have lf4_1 := blk_frozen BK_q.out 1; have lc4_2 : w3.cell? ⟨q, 2, none⟩ = some (.int .i64 (c : Int)) := (blk_cell BK_q.out 2).trans rfl; have lf4_2 := blk_frozen BK_q.out 2; have lc4_3 : w3.cell? ⟨q, 3, none⟩ = some (.slice A 0 cc) := (blk_cell BK_q.out 3).trans rfl; have lf4_3 := blk_frozen BK_q.out 3; have lc4_4 : w3.cell? ⟨q, 4, none⟩ = some (.int .i64 t) := (blk_cell BK_q.out 4).trans rfl; have lf4_4 := blk_frozen BK_q.out 4; have lc4_5 : w3.cell? ⟨q, 5, none⟩ = some (.int .i64 n) := (blk_cell BK_q.out 5).trans rfl; have lf4_5 := blk_frozen BK_q.out 5; have lc4_6 : w3.cell? ⟨q, 6, none⟩ = some (.int .i64 o) := (blk_cell BK_q.out 6).trans rfl; have lf4_6 := blk_frozen BK_q.out 6; have lc5_0 : w3.cell? ⟨z, 0, none⟩ = some (.slice none 0 0) := (blk_cell BK_z.out 0).trans rfl; have lf5_0 := blk_frozen BK_z.out 0; have lc5_1 : w3.cell? ⟨z, 1, none⟩ = some (.int .i64 0) := (blk_cell BK_z.out 1).trans rfl; have lf5_1 := blk_frozen BK_z.out 1) | (go_at_call 41; refine (part_pos SL.out (K := 3) (by omega) HB.out HFIT.out HPOS.out HR.out HL.out HQQ.out rfl).mono ?_; rintro e w' ⟨rfl, rfl⟩) | ((with_reducible refine gate_builtin (b := .copy) (xs := #[.tmp 97, .tmp 99]) rfl ?_); refine copy_none_ev (D := none) (n := 0) (c := 0) (A := A) (m := 0) (c2 := cc) rfl (.tmp 97) (.tmp 99) rfl Try.underlying22 one3 rfl rfl (by decide) ?_) | ((with_reducible refine gate_builtin (b := .append) (xs := #[.const (.slice none 0 0), .tmp 118]) rfl ?_); refine ev_append_rows (M := Mv (fun _ => False) (.slice none 0 0)) (Kd.int .i64) (w0 := w3) (w3.heap.size) rfl (.const (.slice none 0 0)) (.tmp 118) 22 3 (.int .i64 0) 8 rfl Try.underlying22 info3 rfl (by decide) (by decide) (.slice none 0 0) [] (rdAt xs a c) (some ⟨r, a, none⟩) (c) (qq) rfl rfl (OwnE.nil _ _ _ _ _) (RowE.elems (RowE.old (by have hrow := SL.out.row 3 (by omega); rw [HR.out, HXS.out] at hrow; have := C_sub hrow (a := a) (c := c) (by rw [← HXS.out]; exact HFIT.out) (by have := HB.out; omega); rw [rdAt_len (by rw [← HXS.out]; exact HFIT.out)] at this; exact this) (fun k hk => by rcases hk with (hk | hk) | hk; exact hk.elim; cases hk; cases hk))) (Below.refl _ _) (Nat.le_refl _) (by have := HB.out; simp only [List.length_nil]; omega) ?_; intro vv w4 HO_ HBc hgr_ _; obtain ⟨AA, cA, rfl, hcA, hAns⟩ := own_ints HO_; clear HO_ hgr_; rw [List.nil_append] at hcA hAns ⊢; have HCA := Aside0.mk hcA; have HANS : Aside0 (∀ M : Nat → Prop, (∀ k, M k → k < w3.heap.size) → Ever M w4 (fun W => Kd.C (Kd.int .i64) W AA (rdAt xs a c).length (rdAt xs a c))) := ⟨hAns⟩; have HZL : Aside0 (z < w3.heap.size ∧ w.heap.size ≤ w3.heap.size) := ⟨blk_lt BK_z.out, XT.out.size⟩; clear hAns hcA; have BK_qn : Aside0 (w4.heap[q]? = some (.cells #[.int .i64 4, .int .i64 (a : Int), .int .i64 (c : Int), .slice A 0 cc, .int .i64 t, .int .i64 n, .int .i64 o] 24 (0, 0))) := ⟨blk_below BK_q.out HBc⟩; have BK_zn : Aside0 (w4.heap[z]? = some (.cells #[.slice none 0 0, .int .i64 0] 30 (0, 0))) := ⟨blk_below BK_z.out HBc⟩; have SLn : Aside0 (IsSlv 77 w4 g R (X)) := ⟨SL.out.below HBc⟩; have XTn : Aside0 (Ext (Fp g R) w w4) := ⟨XT.out.stepB HBc⟩; have HVn : Aside0 (Ever (Fp g R) w4 (fun W => Kd.C (Kd.int .i64) W A v.length v)) := ⟨HV.out.step (.of_below HBc)⟩; clear BK_q BK_z SL XT HV; have BK_q := BK_qn; have BK_z := BK_zn; have SL := SLn; have XT := XTn; have HV := HVn; clear BK_qn BK_zn SLn XTn HVn; clear HBc; have lc6_0 : w4.cell? ⟨z, 0, none⟩ = some (.slice none 0 0) := (blk_cell BK_z.out 0).trans rfl; have lf6_0 := blk_frozen BK_z.out 0; have lc6_1 : w4.cell? ⟨z, 1, none⟩ = some (.int .i64 0) := (blk_cell BK_z.out 1).trans rfl; have lf6_1 := blk_frozen BK_z.out 1) | ((with_reducible refine gate_store (p := 4) rfl ?_); refine store_event (w1 := ?_) rfl (p := 4) rfl rfl ?hr ?_; rotate_left; (case hr => go_simp; rfl); intro w5 hw_; obtain ⟨hput, HEc⟩ := put2 hw_ BK_z.out; clear hw_; have BK_qn : Aside0 (w5.heap[q]? = some (.cells #[.int .i64 4, .int .i64 (a : Int), .int .i64 (c : Int), .slice A 0 cc, .int .i64 t, .int .i64 n, .int .i64 o] 24 (0, 0))) := ⟨Ext.blk HEc BK_q.out NE_q_z.out⟩; have SLn : Aside0 (IsSlv 77 w5 g R (X)) := ⟨SL.out.ext HEc (fun k hk e => NS_z.out k hk e)⟩; have XTn : Aside0 (Ext (Fp g R) w w5) := ⟨XT.out.step HEc (fun k e => .inr (by rw [show k = z from e]; exact RG_z.out))⟩; clear BK_q SL XT; have BK_q := BK_qn; have SL := SLn; have XT := XTn; clear BK_qn SLn XTn; clear BK_z HV; have BK_z : Aside0 (w5.heap[z]? = some (.cells #[.slice AA (rdAt xs a c).length cA, .int .i64 0] 30 (0, 0))) := ⟨hput⟩; have HST := Aside0.mk HEc; clear hput HEc))
  refine bodyPost_ret (results_ct rfl _ _ z 30 #[.slice AA (rdAt xs a c).length cA, .int .i64 0] (0, 0) _ rfl BK_z.out Try.underlying30 rfl (by kernel_rfl)) rfl ?_
  exact ⟨AA, cA, rfl, HCA.out, SL.out, XT.out, fun M hM => (HANS.out (fun k => M k ∨ k = z) (fun k hk => by rcases hk with hk | hk; exact Nat.lt_of_lt_of_le (hM k hk) HZL.out.2; rw [hk]; exact HZL.out.1)).grow (HST.out.sub (fun k e => .inr e)) (fun k hk => .inl (.inl hk))⟩
end Go.Proofs.Ytocicifgglkaeaa.SlvG
end
